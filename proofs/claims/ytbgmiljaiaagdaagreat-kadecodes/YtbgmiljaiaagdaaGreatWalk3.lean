/- What the functions of this seat compute. -/
import Derived.Test.YtbgmiljaiaagdaaGreatTab
import Derived.Test.YtbgmiljaiaagdaaGreatKerbPlain
import Derived.Test.YtbgmiljaiaagdaaGreatKerbKaPlain
import Derived.Test.YtbgmiljaiaagdaaGreatKerbKaRef
namespace Go.Proofs.YtbgmiljaiaagdaaGreat
open Go Go.Abs Go.Proofs
set_option linter.unusedVariables false
set_option linter.unusedSimpArgs false
set_option maxRecDepth 100000

/- (kerbsuite/kerbsuitelaw22.Ask).request -/
theorem r6 (ao au ak as_ al : UInt8) (at_ ast aen : Int) (aky : UInt8) (atk abx : List UInt8) (aex : UInt8) : runFn (G.env 6 4) G.rts (G.own 6) Tryz.f6 [.agg [.u8 ao, .u8 au, .u8 ak, .u8 as_, .u8 al, .int .u32 at_, .int .u32 ast, .int .u32 aen, .u8 aky, .bs atk, .bs abx, .u8 aex]] [] = sel (decide ((↑(List.length abx) : Int) > (900 : Int))) (chk (decide ((900 : Int) ≤ (↑(List.length abx) : Int))) (sel (IntKind.wrap IntKind.i64 ((1 : Int) + Int.tmod (IntKind.wrap IntKind.i64 (↑(UInt8.toNat ao) : Int)) (3 : Int)) == (2 : Int)) (Option.bind (chk (decide ((0 : Int) ≤ IntKind.wrap IntKind.i64 (↑(UInt8.toNat as_) : Int)) && decide (IntKind.wrap IntKind.i64 (↑(UInt8.toNat as_) : Int) ≤ (4611686018427387904 : Int))) (some (AV.agg [AV.str (Kerb.Prin.name (Kerb.service (IntKind.wrap IntKind.i64 (↑(UInt8.toNat as_) : Int)))), AV.str (Kerb.Prin.inst (Kerb.service (IntKind.wrap IntKind.i64 (↑(UInt8.toNat as_) : Int)))), AV.str (Kerb.Prin.realm (Kerb.service (IntKind.wrap IntKind.i64 (↑(UInt8.toNat as_) : Int))))], []))) fun (r : AV × Blocks) => onNilB (Prod.snd r) (AV.onAgg (Prod.fst r) fun (cs : List AV) => onCons cs fun (x : AV) (r : List AV) => AV.onStr x fun (b : List UInt8) => onCons r fun (x : AV) (r : List AV) => AV.onStr x fun (b_1 : List UInt8) => onCons r fun (x : AV) (r : List AV) => AV.onStr x fun (b_2 : List UInt8) => onNil r (sel (UInt8.ofNat (Int.toNat (Int.tmod (↑(UInt8.toNat aex) : Int) (↑(UInt8.toNat (16 : UInt8)) : Int))) == (11 : UInt8)) (Option.bind (chk (decide ((0 : Int) ≤ IntKind.wrap IntKind.i64 (↑(UInt8.toNat au) : Int)) && decide (IntKind.wrap IntKind.i64 (↑(UInt8.toNat au) : Int) ≤ (4611686018427387904 : Int))) (some (AV.agg [AV.str (Kerb.Prin.name (Kerb.user (IntKind.wrap IntKind.i64 (↑(UInt8.toNat au) : Int)))), AV.str (Kerb.Prin.inst (Kerb.user (IntKind.wrap IntKind.i64 (↑(UInt8.toNat au) : Int)))), AV.str (Kerb.Prin.realm (Kerb.user (IntKind.wrap IntKind.i64 (↑(UInt8.toNat au) : Int))))], []))) fun (r : AV × Blocks) => onNilB (Prod.snd r) (AV.onAgg (Prod.fst r) fun (cs : List AV) => onCons cs fun (x : AV) (r : List AV) => AV.onStr x fun (b_3 : List UInt8) => onCons r fun (x : AV) (r : List AV) => AV.onStr x fun (b_4 : List UInt8) => onCons r fun (x : AV) (r : List AV) => AV.onStr x fun (b_5 : List UInt8) => onNil r (some (AV.agg [AV.int IntKind.i64 (IntKind.wrap IntKind.i64 ((1 : Int) + Int.tmod (IntKind.wrap IntKind.i64 (↑(UInt8.toNat ao) : Int)) (3 : Int))), AV.str b_3, AV.str b_4, AV.str b_5, AV.int IntKind.i64 (IntKind.wrap IntKind.i64 (↑(UInt8.toNat ak) : Int)), AV.str b_2, AV.bs atk, AV.str b, AV.str b_1, AV.bs (List.drop (Int.toNat (↑(0 : Nat) : Int)) (List.take (Int.toNat (900 : Int)) abx))], [])))) (sel (UInt8.ofNat (Int.toNat (Int.tmod (↑(UInt8.toNat aex) : Int) (↑(UInt8.toNat (16 : UInt8)) : Int))) == (12 : UInt8)) (some (AV.agg [AV.int IntKind.i64 (IntKind.wrap IntKind.i64 ((1 : Int) + Int.tmod (IntKind.wrap IntKind.i64 (↑(UInt8.toNat ao) : Int)) (3 : Int))), AV.str [], AV.str [], AV.str [], AV.int IntKind.i64 (IntKind.wrap IntKind.i64 (↑(UInt8.toNat ak) : Int)), AV.str b_2, AV.bs atk, AV.str b, AV.str b_1, AV.bs (List.drop (Int.toNat (↑(0 : Nat) : Int)) (List.take (Int.toNat (900 : Int)) abx))], [])) (sel (UInt8.ofNat (Int.toNat (Int.tmod (↑(UInt8.toNat aex) : Int) (↑(UInt8.toNat (16 : UInt8)) : Int))) == (13 : UInt8)) (some (AV.agg [AV.int IntKind.i64 (IntKind.wrap IntKind.i64 ((1 : Int) + Int.tmod (IntKind.wrap IntKind.i64 (↑(UInt8.toNat ao) : Int)) (3 : Int))), AV.str [], AV.str [], AV.str [], AV.int IntKind.i64 (IntKind.wrap IntKind.i64 (↑(UInt8.toNat ak) : Int)), AV.str b_2, AV.bs atk, AV.str b, AV.str b_1, AV.bs (List.drop (Int.toNat (↑(0 : Nat) : Int)) (List.take (Int.toNat (900 : Int)) abx))], [])) (sel (UInt8.ofNat (Int.toNat (Int.tmod (↑(UInt8.toNat aex) : Int) (↑(UInt8.toNat (16 : UInt8)) : Int))) == (14 : UInt8)) (some (AV.agg [AV.int IntKind.i64 (IntKind.wrap IntKind.i64 ((1 : Int) + Int.tmod (IntKind.wrap IntKind.i64 (↑(UInt8.toNat ao) : Int)) (3 : Int))), AV.str [], AV.str [], AV.str [], AV.int IntKind.i64 (IntKind.wrap IntKind.i64 (↑(UInt8.toNat ak) : Int)), AV.str b_2, AV.bs atk, AV.str [(109 : UInt8), (97 : UInt8), (105 : UInt8), (108 : UInt8)], AV.str b_1, AV.bs (List.drop (Int.toNat (↑(0 : Nat) : Int)) (List.take (Int.toNat (900 : Int)) abx))], [])) (sel (UInt8.ofNat (Int.toNat (Int.tmod (↑(UInt8.toNat aex) : Int) (↑(UInt8.toNat (16 : UInt8)) : Int))) == (15 : UInt8)) (chk (decide ((0 : Int) ≤ IntKind.wrap IntKind.i64 ((1011 : Int) + Int.tmod (IntKind.wrap IntKind.i64 (↑(UInt8.toNat ak) : Int)) (3 : Int))) && decide (IntKind.wrap IntKind.i64 ((1011 : Int) + Int.tmod (IntKind.wrap IntKind.i64 (↑(UInt8.toNat ak) : Int)) (3 : Int)) ≤ IntKind.wrap IntKind.i64 ((1011 : Int) + Int.tmod (IntKind.wrap IntKind.i64 (↑(UInt8.toNat ak) : Int)) (3 : Int))) && decide (IntKind.wrap IntKind.i64 ((1011 : Int) + Int.tmod (IntKind.wrap IntKind.i64 (↑(UInt8.toNat ak) : Int)) (3 : Int)) ≤ (140737488355328 : Int))) (some (AV.agg [AV.int IntKind.i64 (IntKind.wrap IntKind.i64 ((1 : Int) + Int.tmod (IntKind.wrap IntKind.i64 (↑(UInt8.toNat ao) : Int)) (3 : Int))), AV.str [], AV.str [], AV.str [], AV.int IntKind.i64 (IntKind.wrap IntKind.i64 (↑(UInt8.toNat ak) : Int)), AV.str b_2, AV.bs atk, AV.str b, AV.str b_1, AV.bs (List.replicate (Int.toNat (IntKind.wrap IntKind.i64 ((1011 : Int) + Int.tmod (IntKind.wrap IntKind.i64 (↑(UInt8.toNat ak) : Int)) (3 : Int)))) (0 : UInt8))], []))) (some (AV.agg [AV.int IntKind.i64 (IntKind.wrap IntKind.i64 ((1 : Int) + Int.tmod (IntKind.wrap IntKind.i64 (↑(UInt8.toNat ao) : Int)) (3 : Int))), AV.str [], AV.str [], AV.str [], AV.int IntKind.i64 (IntKind.wrap IntKind.i64 (↑(UInt8.toNat ak) : Int)), AV.str b_2, AV.bs atk, AV.str b, AV.str b_1, AV.bs (List.drop (Int.toNat (↑(0 : Nat) : Int)) (List.take (Int.toNat (900 : Int)) abx))], []))))))))) (Option.bind (chk (decide ((0 : Int) ≤ IntKind.wrap IntKind.i64 (↑(UInt8.toNat au) : Int)) && decide (IntKind.wrap IntKind.i64 (↑(UInt8.toNat au) : Int) ≤ (4611686018427387904 : Int))) (some (AV.agg [AV.str (Kerb.Prin.name (Kerb.user (IntKind.wrap IntKind.i64 (↑(UInt8.toNat au) : Int)))), AV.str (Kerb.Prin.inst (Kerb.user (IntKind.wrap IntKind.i64 (↑(UInt8.toNat au) : Int)))), AV.str (Kerb.Prin.realm (Kerb.user (IntKind.wrap IntKind.i64 (↑(UInt8.toNat au) : Int))))], []))) fun (r : AV × Blocks) => onNilB (Prod.snd r) (AV.onAgg (Prod.fst r) fun (cs : List AV) => onCons cs fun (x : AV) (r : List AV) => AV.onStr x fun (b : List UInt8) => onCons r fun (x : AV) (r : List AV) => AV.onStr x fun (b_1 : List UInt8) => onCons r fun (x : AV) (r : List AV) => AV.onStr x fun (b_2 : List UInt8) => onNil r (sel (UInt8.ofNat (Int.toNat (Int.tmod (↑(UInt8.toNat aex) : Int) (↑(UInt8.toNat (16 : UInt8)) : Int))) == (11 : UInt8)) (Option.bind (chk (decide ((0 : Int) ≤ IntKind.wrap IntKind.i64 (↑(UInt8.toNat au) : Int)) && decide (IntKind.wrap IntKind.i64 (↑(UInt8.toNat au) : Int) ≤ (4611686018427387904 : Int))) (some (AV.agg [AV.str (Kerb.Prin.name (Kerb.user (IntKind.wrap IntKind.i64 (↑(UInt8.toNat au) : Int)))), AV.str (Kerb.Prin.inst (Kerb.user (IntKind.wrap IntKind.i64 (↑(UInt8.toNat au) : Int)))), AV.str (Kerb.Prin.realm (Kerb.user (IntKind.wrap IntKind.i64 (↑(UInt8.toNat au) : Int))))], []))) fun (r : AV × Blocks) => onNilB (Prod.snd r) (AV.onAgg (Prod.fst r) fun (cs : List AV) => onCons cs fun (x : AV) (r : List AV) => AV.onStr x fun (b : List UInt8) => onCons r fun (x : AV) (r : List AV) => AV.onStr x fun (b_3 : List UInt8) => onCons r fun (x : AV) (r : List AV) => AV.onStr x fun (b_4 : List UInt8) => onNil r (some (AV.agg [AV.int IntKind.i64 (IntKind.wrap IntKind.i64 ((1 : Int) + Int.tmod (IntKind.wrap IntKind.i64 (↑(UInt8.toNat ao) : Int)) (3 : Int))), AV.str b, AV.str b_3, AV.str b_4, AV.int IntKind.i64 (0 : Int), AV.str [], AV.bs [], AV.str [], AV.str [], AV.bs (List.drop (Int.toNat (↑(0 : Nat) : Int)) (List.take (Int.toNat (900 : Int)) abx))], [])))) (sel (UInt8.ofNat (Int.toNat (Int.tmod (↑(UInt8.toNat aex) : Int) (↑(UInt8.toNat (16 : UInt8)) : Int))) == (12 : UInt8)) (some (AV.agg [AV.int IntKind.i64 (IntKind.wrap IntKind.i64 ((1 : Int) + Int.tmod (IntKind.wrap IntKind.i64 (↑(UInt8.toNat ao) : Int)) (3 : Int))), AV.str b, AV.str b_1, AV.str b_2, AV.int IntKind.i64 (IntKind.wrap IntKind.i64 (↑(UInt8.toNat ak) : Int)), AV.str [], AV.bs [], AV.str [], AV.str [], AV.bs (List.drop (Int.toNat (↑(0 : Nat) : Int)) (List.take (Int.toNat (900 : Int)) abx))], [])) (sel (UInt8.ofNat (Int.toNat (Int.tmod (↑(UInt8.toNat aex) : Int) (↑(UInt8.toNat (16 : UInt8)) : Int))) == (13 : UInt8)) (some (AV.agg [AV.int IntKind.i64 (IntKind.wrap IntKind.i64 ((1 : Int) + Int.tmod (IntKind.wrap IntKind.i64 (↑(UInt8.toNat ao) : Int)) (3 : Int))), AV.str b, AV.str b_1, AV.str b_2, AV.int IntKind.i64 (0 : Int), AV.str [], AV.bs atk, AV.str [], AV.str [], AV.bs (List.drop (Int.toNat (↑(0 : Nat) : Int)) (List.take (Int.toNat (900 : Int)) abx))], [])) (sel (UInt8.ofNat (Int.toNat (Int.tmod (↑(UInt8.toNat aex) : Int) (↑(UInt8.toNat (16 : UInt8)) : Int))) == (14 : UInt8)) (some (AV.agg [AV.int IntKind.i64 (IntKind.wrap IntKind.i64 ((1 : Int) + Int.tmod (IntKind.wrap IntKind.i64 (↑(UInt8.toNat ao) : Int)) (3 : Int))), AV.str b, AV.str b_1, AV.str b_2, AV.int IntKind.i64 (0 : Int), AV.str [], AV.bs [], AV.str [(109 : UInt8), (97 : UInt8), (105 : UInt8), (108 : UInt8)], AV.str [], AV.bs (List.drop (Int.toNat (↑(0 : Nat) : Int)) (List.take (Int.toNat (900 : Int)) abx))], [])) (sel (UInt8.ofNat (Int.toNat (Int.tmod (↑(UInt8.toNat aex) : Int) (↑(UInt8.toNat (16 : UInt8)) : Int))) == (15 : UInt8)) (chk (decide ((0 : Int) ≤ IntKind.wrap IntKind.i64 ((1011 : Int) + Int.tmod (IntKind.wrap IntKind.i64 (↑(UInt8.toNat ak) : Int)) (3 : Int))) && decide (IntKind.wrap IntKind.i64 ((1011 : Int) + Int.tmod (IntKind.wrap IntKind.i64 (↑(UInt8.toNat ak) : Int)) (3 : Int)) ≤ IntKind.wrap IntKind.i64 ((1011 : Int) + Int.tmod (IntKind.wrap IntKind.i64 (↑(UInt8.toNat ak) : Int)) (3 : Int))) && decide (IntKind.wrap IntKind.i64 ((1011 : Int) + Int.tmod (IntKind.wrap IntKind.i64 (↑(UInt8.toNat ak) : Int)) (3 : Int)) ≤ (140737488355328 : Int))) (some (AV.agg [AV.int IntKind.i64 (IntKind.wrap IntKind.i64 ((1 : Int) + Int.tmod (IntKind.wrap IntKind.i64 (↑(UInt8.toNat ao) : Int)) (3 : Int))), AV.str b, AV.str b_1, AV.str b_2, AV.int IntKind.i64 (0 : Int), AV.str [], AV.bs [], AV.str [], AV.str [], AV.bs (List.replicate (Int.toNat (IntKind.wrap IntKind.i64 ((1011 : Int) + Int.tmod (IntKind.wrap IntKind.i64 (↑(UInt8.toNat ak) : Int)) (3 : Int)))) (0 : UInt8))], []))) (some (AV.agg [AV.int IntKind.i64 (IntKind.wrap IntKind.i64 ((1 : Int) + Int.tmod (IntKind.wrap IntKind.i64 (↑(UInt8.toNat ao) : Int)) (3 : Int))), AV.str b, AV.str b_1, AV.str b_2, AV.int IntKind.i64 (0 : Int), AV.str [], AV.bs [], AV.str [], AV.str [], AV.bs (List.drop (Int.toNat (↑(0 : Nat) : Int)) (List.take (Int.toNat (900 : Int)) abx))], []))))))))))) (sel (IntKind.wrap IntKind.i64 ((1 : Int) + Int.tmod (IntKind.wrap IntKind.i64 (↑(UInt8.toNat ao) : Int)) (3 : Int)) == (2 : Int)) (Option.bind (chk (decide ((0 : Int) ≤ IntKind.wrap IntKind.i64 (↑(UInt8.toNat as_) : Int)) && decide (IntKind.wrap IntKind.i64 (↑(UInt8.toNat as_) : Int) ≤ (4611686018427387904 : Int))) (some (AV.agg [AV.str (Kerb.Prin.name (Kerb.service (IntKind.wrap IntKind.i64 (↑(UInt8.toNat as_) : Int)))), AV.str (Kerb.Prin.inst (Kerb.service (IntKind.wrap IntKind.i64 (↑(UInt8.toNat as_) : Int)))), AV.str (Kerb.Prin.realm (Kerb.service (IntKind.wrap IntKind.i64 (↑(UInt8.toNat as_) : Int))))], []))) fun (r : AV × Blocks) => onNilB (Prod.snd r) (AV.onAgg (Prod.fst r) fun (cs : List AV) => onCons cs fun (x : AV) (r : List AV) => AV.onStr x fun (b : List UInt8) => onCons r fun (x : AV) (r : List AV) => AV.onStr x fun (b_1 : List UInt8) => onCons r fun (x : AV) (r : List AV) => AV.onStr x fun (b_2 : List UInt8) => onNil r (sel (UInt8.ofNat (Int.toNat (Int.tmod (↑(UInt8.toNat aex) : Int) (↑(UInt8.toNat (16 : UInt8)) : Int))) == (11 : UInt8)) (Option.bind (chk (decide ((0 : Int) ≤ IntKind.wrap IntKind.i64 (↑(UInt8.toNat au) : Int)) && decide (IntKind.wrap IntKind.i64 (↑(UInt8.toNat au) : Int) ≤ (4611686018427387904 : Int))) (some (AV.agg [AV.str (Kerb.Prin.name (Kerb.user (IntKind.wrap IntKind.i64 (↑(UInt8.toNat au) : Int)))), AV.str (Kerb.Prin.inst (Kerb.user (IntKind.wrap IntKind.i64 (↑(UInt8.toNat au) : Int)))), AV.str (Kerb.Prin.realm (Kerb.user (IntKind.wrap IntKind.i64 (↑(UInt8.toNat au) : Int))))], []))) fun (r : AV × Blocks) => onNilB (Prod.snd r) (AV.onAgg (Prod.fst r) fun (cs : List AV) => onCons cs fun (x : AV) (r : List AV) => AV.onStr x fun (b_3 : List UInt8) => onCons r fun (x : AV) (r : List AV) => AV.onStr x fun (b_4 : List UInt8) => onCons r fun (x : AV) (r : List AV) => AV.onStr x fun (b_5 : List UInt8) => onNil r (some (AV.agg [AV.int IntKind.i64 (IntKind.wrap IntKind.i64 ((1 : Int) + Int.tmod (IntKind.wrap IntKind.i64 (↑(UInt8.toNat ao) : Int)) (3 : Int))), AV.str b_3, AV.str b_4, AV.str b_5, AV.int IntKind.i64 (IntKind.wrap IntKind.i64 (↑(UInt8.toNat ak) : Int)), AV.str b_2, AV.bs atk, AV.str b, AV.str b_1, AV.bs abx], [])))) (sel (UInt8.ofNat (Int.toNat (Int.tmod (↑(UInt8.toNat aex) : Int) (↑(UInt8.toNat (16 : UInt8)) : Int))) == (12 : UInt8)) (some (AV.agg [AV.int IntKind.i64 (IntKind.wrap IntKind.i64 ((1 : Int) + Int.tmod (IntKind.wrap IntKind.i64 (↑(UInt8.toNat ao) : Int)) (3 : Int))), AV.str [], AV.str [], AV.str [], AV.int IntKind.i64 (IntKind.wrap IntKind.i64 (↑(UInt8.toNat ak) : Int)), AV.str b_2, AV.bs atk, AV.str b, AV.str b_1, AV.bs abx], [])) (sel (UInt8.ofNat (Int.toNat (Int.tmod (↑(UInt8.toNat aex) : Int) (↑(UInt8.toNat (16 : UInt8)) : Int))) == (13 : UInt8)) (some (AV.agg [AV.int IntKind.i64 (IntKind.wrap IntKind.i64 ((1 : Int) + Int.tmod (IntKind.wrap IntKind.i64 (↑(UInt8.toNat ao) : Int)) (3 : Int))), AV.str [], AV.str [], AV.str [], AV.int IntKind.i64 (IntKind.wrap IntKind.i64 (↑(UInt8.toNat ak) : Int)), AV.str b_2, AV.bs atk, AV.str b, AV.str b_1, AV.bs abx], [])) (sel (UInt8.ofNat (Int.toNat (Int.tmod (↑(UInt8.toNat aex) : Int) (↑(UInt8.toNat (16 : UInt8)) : Int))) == (14 : UInt8)) (some (AV.agg [AV.int IntKind.i64 (IntKind.wrap IntKind.i64 ((1 : Int) + Int.tmod (IntKind.wrap IntKind.i64 (↑(UInt8.toNat ao) : Int)) (3 : Int))), AV.str [], AV.str [], AV.str [], AV.int IntKind.i64 (IntKind.wrap IntKind.i64 (↑(UInt8.toNat ak) : Int)), AV.str b_2, AV.bs atk, AV.str [(109 : UInt8), (97 : UInt8), (105 : UInt8), (108 : UInt8)], AV.str b_1, AV.bs abx], [])) (sel (UInt8.ofNat (Int.toNat (Int.tmod (↑(UInt8.toNat aex) : Int) (↑(UInt8.toNat (16 : UInt8)) : Int))) == (15 : UInt8)) (chk (decide ((0 : Int) ≤ IntKind.wrap IntKind.i64 ((1011 : Int) + Int.tmod (IntKind.wrap IntKind.i64 (↑(UInt8.toNat ak) : Int)) (3 : Int))) && decide (IntKind.wrap IntKind.i64 ((1011 : Int) + Int.tmod (IntKind.wrap IntKind.i64 (↑(UInt8.toNat ak) : Int)) (3 : Int)) ≤ IntKind.wrap IntKind.i64 ((1011 : Int) + Int.tmod (IntKind.wrap IntKind.i64 (↑(UInt8.toNat ak) : Int)) (3 : Int))) && decide (IntKind.wrap IntKind.i64 ((1011 : Int) + Int.tmod (IntKind.wrap IntKind.i64 (↑(UInt8.toNat ak) : Int)) (3 : Int)) ≤ (140737488355328 : Int))) (some (AV.agg [AV.int IntKind.i64 (IntKind.wrap IntKind.i64 ((1 : Int) + Int.tmod (IntKind.wrap IntKind.i64 (↑(UInt8.toNat ao) : Int)) (3 : Int))), AV.str [], AV.str [], AV.str [], AV.int IntKind.i64 (IntKind.wrap IntKind.i64 (↑(UInt8.toNat ak) : Int)), AV.str b_2, AV.bs atk, AV.str b, AV.str b_1, AV.bs (List.replicate (Int.toNat (IntKind.wrap IntKind.i64 ((1011 : Int) + Int.tmod (IntKind.wrap IntKind.i64 (↑(UInt8.toNat ak) : Int)) (3 : Int)))) (0 : UInt8))], []))) (some (AV.agg [AV.int IntKind.i64 (IntKind.wrap IntKind.i64 ((1 : Int) + Int.tmod (IntKind.wrap IntKind.i64 (↑(UInt8.toNat ao) : Int)) (3 : Int))), AV.str [], AV.str [], AV.str [], AV.int IntKind.i64 (IntKind.wrap IntKind.i64 (↑(UInt8.toNat ak) : Int)), AV.str b_2, AV.bs atk, AV.str b, AV.str b_1, AV.bs abx], []))))))))) (Option.bind (chk (decide ((0 : Int) ≤ IntKind.wrap IntKind.i64 (↑(UInt8.toNat au) : Int)) && decide (IntKind.wrap IntKind.i64 (↑(UInt8.toNat au) : Int) ≤ (4611686018427387904 : Int))) (some (AV.agg [AV.str (Kerb.Prin.name (Kerb.user (IntKind.wrap IntKind.i64 (↑(UInt8.toNat au) : Int)))), AV.str (Kerb.Prin.inst (Kerb.user (IntKind.wrap IntKind.i64 (↑(UInt8.toNat au) : Int)))), AV.str (Kerb.Prin.realm (Kerb.user (IntKind.wrap IntKind.i64 (↑(UInt8.toNat au) : Int))))], []))) fun (r : AV × Blocks) => onNilB (Prod.snd r) (AV.onAgg (Prod.fst r) fun (cs : List AV) => onCons cs fun (x : AV) (r : List AV) => AV.onStr x fun (b : List UInt8) => onCons r fun (x : AV) (r : List AV) => AV.onStr x fun (b_1 : List UInt8) => onCons r fun (x : AV) (r : List AV) => AV.onStr x fun (b_2 : List UInt8) => onNil r (sel (UInt8.ofNat (Int.toNat (Int.tmod (↑(UInt8.toNat aex) : Int) (↑(UInt8.toNat (16 : UInt8)) : Int))) == (11 : UInt8)) (Option.bind (chk (decide ((0 : Int) ≤ IntKind.wrap IntKind.i64 (↑(UInt8.toNat au) : Int)) && decide (IntKind.wrap IntKind.i64 (↑(UInt8.toNat au) : Int) ≤ (4611686018427387904 : Int))) (some (AV.agg [AV.str (Kerb.Prin.name (Kerb.user (IntKind.wrap IntKind.i64 (↑(UInt8.toNat au) : Int)))), AV.str (Kerb.Prin.inst (Kerb.user (IntKind.wrap IntKind.i64 (↑(UInt8.toNat au) : Int)))), AV.str (Kerb.Prin.realm (Kerb.user (IntKind.wrap IntKind.i64 (↑(UInt8.toNat au) : Int))))], []))) fun (r : AV × Blocks) => onNilB (Prod.snd r) (AV.onAgg (Prod.fst r) fun (cs : List AV) => onCons cs fun (x : AV) (r : List AV) => AV.onStr x fun (b : List UInt8) => onCons r fun (x : AV) (r : List AV) => AV.onStr x fun (b_3 : List UInt8) => onCons r fun (x : AV) (r : List AV) => AV.onStr x fun (b_4 : List UInt8) => onNil r (some (AV.agg [AV.int IntKind.i64 (IntKind.wrap IntKind.i64 ((1 : Int) + Int.tmod (IntKind.wrap IntKind.i64 (↑(UInt8.toNat ao) : Int)) (3 : Int))), AV.str b, AV.str b_3, AV.str b_4, AV.int IntKind.i64 (0 : Int), AV.str [], AV.bs [], AV.str [], AV.str [], AV.bs abx], [])))) (sel (UInt8.ofNat (Int.toNat (Int.tmod (↑(UInt8.toNat aex) : Int) (↑(UInt8.toNat (16 : UInt8)) : Int))) == (12 : UInt8)) (some (AV.agg [AV.int IntKind.i64 (IntKind.wrap IntKind.i64 ((1 : Int) + Int.tmod (IntKind.wrap IntKind.i64 (↑(UInt8.toNat ao) : Int)) (3 : Int))), AV.str b, AV.str b_1, AV.str b_2, AV.int IntKind.i64 (IntKind.wrap IntKind.i64 (↑(UInt8.toNat ak) : Int)), AV.str [], AV.bs [], AV.str [], AV.str [], AV.bs abx], [])) (sel (UInt8.ofNat (Int.toNat (Int.tmod (↑(UInt8.toNat aex) : Int) (↑(UInt8.toNat (16 : UInt8)) : Int))) == (13 : UInt8)) (some (AV.agg [AV.int IntKind.i64 (IntKind.wrap IntKind.i64 ((1 : Int) + Int.tmod (IntKind.wrap IntKind.i64 (↑(UInt8.toNat ao) : Int)) (3 : Int))), AV.str b, AV.str b_1, AV.str b_2, AV.int IntKind.i64 (0 : Int), AV.str [], AV.bs atk, AV.str [], AV.str [], AV.bs abx], [])) (sel (UInt8.ofNat (Int.toNat (Int.tmod (↑(UInt8.toNat aex) : Int) (↑(UInt8.toNat (16 : UInt8)) : Int))) == (14 : UInt8)) (some (AV.agg [AV.int IntKind.i64 (IntKind.wrap IntKind.i64 ((1 : Int) + Int.tmod (IntKind.wrap IntKind.i64 (↑(UInt8.toNat ao) : Int)) (3 : Int))), AV.str b, AV.str b_1, AV.str b_2, AV.int IntKind.i64 (0 : Int), AV.str [], AV.bs [], AV.str [(109 : UInt8), (97 : UInt8), (105 : UInt8), (108 : UInt8)], AV.str [], AV.bs abx], [])) (sel (UInt8.ofNat (Int.toNat (Int.tmod (↑(UInt8.toNat aex) : Int) (↑(UInt8.toNat (16 : UInt8)) : Int))) == (15 : UInt8)) (chk (decide ((0 : Int) ≤ IntKind.wrap IntKind.i64 ((1011 : Int) + Int.tmod (IntKind.wrap IntKind.i64 (↑(UInt8.toNat ak) : Int)) (3 : Int))) && decide (IntKind.wrap IntKind.i64 ((1011 : Int) + Int.tmod (IntKind.wrap IntKind.i64 (↑(UInt8.toNat ak) : Int)) (3 : Int)) ≤ IntKind.wrap IntKind.i64 ((1011 : Int) + Int.tmod (IntKind.wrap IntKind.i64 (↑(UInt8.toNat ak) : Int)) (3 : Int))) && decide (IntKind.wrap IntKind.i64 ((1011 : Int) + Int.tmod (IntKind.wrap IntKind.i64 (↑(UInt8.toNat ak) : Int)) (3 : Int)) ≤ (140737488355328 : Int))) (some (AV.agg [AV.int IntKind.i64 (IntKind.wrap IntKind.i64 ((1 : Int) + Int.tmod (IntKind.wrap IntKind.i64 (↑(UInt8.toNat ao) : Int)) (3 : Int))), AV.str b, AV.str b_1, AV.str b_2, AV.int IntKind.i64 (0 : Int), AV.str [], AV.bs [], AV.str [], AV.str [], AV.bs (List.replicate (Int.toNat (IntKind.wrap IntKind.i64 ((1011 : Int) + Int.tmod (IntKind.wrap IntKind.i64 (↑(UInt8.toNat ak) : Int)) (3 : Int)))) (0 : UInt8))], []))) (some (AV.agg [AV.int IntKind.i64 (IntKind.wrap IntKind.i64 ((1 : Int) + Int.tmod (IntKind.wrap IntKind.i64 (↑(UInt8.toNat ao) : Int)) (3 : Int))), AV.str b, AV.str b_1, AV.str b_2, AV.int IntKind.i64 (0 : Int), AV.str [], AV.bs [], AV.str [], AV.str [], AV.bs abx], [])))))))))) := by kernel_rfl

theorem p6 (ao au ak as_ al : UInt8) (at_ ast aen : Int) (aky : UInt8) (atk abx : List UInt8) (aex : UInt8) : runFn (G.env 6 4) G.rts (G.own 6) Tryz.f6 [.agg [.u8 ao, .u8 au, .u8 ak, .u8 as_, .u8 al, .int .u32 at_, .int .u32 ast, .int .u32 aen, .u8 aky, .bs atk, .bs abx, .u8 aex]] [] = some (.agg [.int .i64 ((Kerb.Ask.mk ao au ak as_ al at_ ast aen aky atk abx aex).request).op, .str ((Kerb.Ask.mk ao au ak as_ al at_ ast aen aky atk abx aex).request).user.name, .str ((Kerb.Ask.mk ao au ak as_ al at_ ast aen aky atk abx aex).request).user.inst, .str ((Kerb.Ask.mk ao au ak as_ al at_ ast aen aky atk abx aex).request).user.realm, .int .i64 ((Kerb.Ask.mk ao au ak as_ al at_ ast aen aky atk abx aex).request).kvno, .str ((Kerb.Ask.mk ao au ak as_ al at_ ast aen aky atk abx aex).request).realm, .bs ((Kerb.Ask.mk ao au ak as_ al at_ ast aen aky atk abx aex).request).ticket, .str ((Kerb.Ask.mk ao au ak as_ al at_ ast aen aky atk abx aex).request).service, .str ((Kerb.Ask.mk ao au ak as_ al at_ ast aen aky atk abx aex).request).inst, .bs ((Kerb.Ask.mk ao au ak as_ al at_ ast aen aky atk abx aex).request).box], []) := by
  rw [r6]
  have hex := aex.toNat_lt
  have hao := Kerb.u8i_bd ao
  have hak := Kerb.u8i_bd ak
  have has := Kerb.u8i_bd as_
  have hau := Kerb.u8i_bd au
  simp only [onInt_int, onU8_u8, onBool_bool, onStr_str, onBs_bs, onSl_sl, onAgg_agg, onTup_tup, onOwnB_ownB, onOwnL_ownL, onCons_cons, onNil_nil, onNilB_nil, onConsB_cons, chk_true, chk_bind, sel_bind, some_bind, exK_ret, exK_exit, sel_true, sel_false, Kerb.wrap_u8i]
  have e1 : IntKind.wrap IntKind.i64 ((1 : Int) + Int.tmod (Kerb.u8i ao) (3 : Int)) = Kerb.Ask.reqOp (Kerb.Ask.mk ao au ak as_ al at_ ast aen aky atk abx aex) := by
    rw [Int.tmod_eq_emod_of_nonneg hao.1, wrap_i64 (by omega) (by omega)]; rfl
  have e2 : IntKind.wrap IntKind.i64 ((1011 : Int) + Int.tmod (Kerb.u8i ak) (3 : Int)) = ((1011 + ak.toNat % 3 : Nat) : Int) := by
    rw [Int.tmod_eq_emod_of_nonneg hak.1, wrap_i64 (by omega) (by omega)]; unfold Kerb.u8i; omega
  have q : ∀ k : Nat, k < 256 → (UInt8.ofNat (Int.toNat (Int.tmod (aex.toNat : Int) ((16 : UInt8).toNat : Int))) == UInt8.ofNat k) = decide (Kerb.Ask.ex (Kerb.Ask.mk ao au ak as_ al at_ ast aen aky atk abx aex) = k) := fun k hk => by
    have : Int.toNat (Int.tmod (aex.toNat : Int) ((16 : UInt8).toNat : Int)) = aex.toNat % 16 := Kerb.tmod_u8 aex 16 (by omega)
    rw [this, Kerb.u8_beq (by omega) hk]; rfl
  have q11 : (_ == (11 : UInt8)) = _ := q 11 (by omega)
  have q12 : (_ == (12 : UInt8)) = _ := q 12 (by omega)
  have q13 : (_ == (13 : UInt8)) = _ := q 13 (by omega)
  have q14 : (_ == (14 : UInt8)) = _ := q 14 (by omega)
  have q15 : (_ == (15 : UInt8)) = _ := q 15 (by omega)
  have c1 : (decide ((0 : Int) ≤ Kerb.u8i as_) && decide (Kerb.u8i as_ ≤ 4611686018427387904)) = true := by simp; omega
  have c2 : (decide ((0 : Int) ≤ Kerb.u8i au) && decide (Kerb.u8i au ≤ 4611686018427387904)) = true := by simp; omega
  have c3 : (decide ((0 : Int) ≤ ((1011 + ak.toNat % 3 : Nat) : Int)) && decide (((1011 + ak.toNat % 3 : Nat) : Int) ≤ ((1011 + ak.toNat % 3 : Nat) : Int)) && decide (((1011 + ak.toNat % 3 : Nat) : Int) ≤ 140737488355328)) = true := by simp; omega
  simp only [e1, e2, q11, q12, q13, q14, q15, c1, c2, c3, chk_true, Int.toNat_natCast]
  have ez : ((0 : Nat) : Int).toNat = 0 := rfl
  have e9 : Int.toNat (900 : Int) = 900 := rfl
  simp only [ez, e9, List.drop_zero]
  have hx : ∃ y, y = Kerb.Ask.ex (Kerb.Ask.mk ao au ak as_ al at_ ast aen aky atk abx aex) := ⟨_, rfl⟩
  obtain ⟨y, hy⟩ := hx
  have ho : ∃ o, o = Kerb.Ask.reqOp (Kerb.Ask.mk ao au ak as_ al at_ ast aen aky atk abx aex) := ⟨_, rfl⟩
  obtain ⟨o, ho⟩ := ho
  by_cases h900 : 900 < abx.length
  · rw [sel_pos (by simp; omega), chk_of (by simp; omega)]
    unfold Kerb.Ask.request Kerb.Ask.base
    simp only [← hy, ← ho]
    by_cases h2 : o = 2
    · subst h2
      have hc : y = 11 ∨ y = 12 ∨ y = 13 ∨ y = 14 ∨ y = 15 ∨ (y ≠ 11 ∧ y ≠ 12 ∧ y ≠ 13 ∧ y ≠ 14 ∧ y ≠ 15) := by omega
      rcases hc with h | h | h | h | h | ⟨h, g2, g3, g4, g5⟩
      all_goals first | (subst h; simp [sel, Kerb.noPrin]; done) | (simp [sel, Kerb.noPrin, h, g2, g3, g4, g5]; done)
    · have hb2 : (o == 2) = false := by simpa using h2
      have hc : y = 11 ∨ y = 12 ∨ y = 13 ∨ y = 14 ∨ y = 15 ∨ (y ≠ 11 ∧ y ≠ 12 ∧ y ≠ 13 ∧ y ≠ 14 ∧ y ≠ 15) := by omega
      rcases hc with h | h | h | h | h | ⟨h, g2, g3, g4, g5⟩
      all_goals first | (subst h; simp [sel, h2, hb2, Kerb.noPrin]; done) | (simp [sel, Kerb.noPrin, h2, hb2, h, g2, g3, g4, g5]; done)
  · have et : List.take 900 abx = abx := List.take_of_length_le (by omega)
    rw [sel_neg (by simp; omega)]
    unfold Kerb.Ask.request Kerb.Ask.base
    simp only [← hy, ← ho, et]
    by_cases h2 : o = 2
    · subst h2
      have hc : y = 11 ∨ y = 12 ∨ y = 13 ∨ y = 14 ∨ y = 15 ∨ (y ≠ 11 ∧ y ≠ 12 ∧ y ≠ 13 ∧ y ≠ 14 ∧ y ≠ 15) := by omega
      rcases hc with h | h | h | h | h | ⟨h, g2, g3, g4, g5⟩
      all_goals first | (subst h; simp [sel, et, Kerb.noPrin]; done) | (simp [sel, et, Kerb.noPrin, h, g2, g3, g4, g5]; done)
    · have hb2 : (o == 2) = false := by simpa using h2
      have hc : y = 11 ∨ y = 12 ∨ y = 13 ∨ y = 14 ∨ y = 15 ∨ (y ≠ 11 ∧ y ≠ 12 ∧ y ≠ 13 ∧ y ≠ 14 ∧ y ≠ 15) := by omega
      rcases hc with h | h | h | h | h | ⟨h, g2, g3, g4, g5⟩
      all_goals first | (subst h; simp [sel, et, h2, hb2, Kerb.noPrin]; done) | (simp [sel, et, Kerb.noPrin, h2, hb2, h, g2, g3, g4, g5]; done)

theorem w6 : Walked Tryz.prog G 6 4 sp6 := by
  refine ⟨Tryz.f6, Tryz.func6, by decide +kernel, rfl, fun xs bl r h => ?_⟩
  unfold sp6 at h
  split at h
  · cases h; exact p6 _ _ _ _ _ _ _ _ _ _ _ _
  · cases h

/- kerbsuite/kerbsuiteref22.EncodeAnswer -/
theorem r10 (lb : List UInt8) (t k st en kv : Int) (x y z tk : List UInt8) : runFn (G.env 10 4) G.rts (G.own 10) Tryz.f10 [.agg [.str lb, .int .i64 t, .int .u64 k, .int .i64 st, .int .i64 en, .int .i64 kv, .str x, .str y, .str z, .bs tk]] [] = sel (lb == [(116 : UInt8), (103 : UInt8), (115 : UInt8), (84 : UInt8)]) (sel (!Kerb.within t (4294967295 : Int)) (some (AV.tup [AV.bs [], AV.int IntKind.i64 (104 : Int)], [])) (Option.bind (chk (decide (List.length lb ≤ (70368744177664 : Nat))) (some (AV.ownB (lb ++ Kerb.putN t (4 : Nat) false), []))) fun (r : AV × Blocks) => onNilB (Prod.snd r) (AV.onOwnB (Prod.fst r) fun (l : List UInt8) => Option.bind (chk (decide ((0 : Int) ≤ k) && decide (k < (18446744073709551616 : Int))) (some (AV.bool (Kerb.keyValid k), []))) fun (r : AV × Blocks) => onNilB (Prod.snd r) (AV.onBool (Prod.fst r) fun (b : Bool) => sel (!b) (some (AV.tup [AV.bs [], AV.int IntKind.i64 (10 : Int)], [])) (sel (!Kerb.within st (4294967295 : Int)) (some (AV.tup [AV.bs [], AV.int IntKind.i64 (104 : Int)], [])) (sel (!Kerb.within en (4294967295 : Int)) (some (AV.tup [AV.bs [], AV.int IntKind.i64 (104 : Int)], [])) (sel (!Kerb.within kv (255 : Int)) (some (AV.tup [AV.bs [], AV.int IntKind.i64 (104 : Int)], [])) (Option.bind (chk (decide (List.length x ≤ (4611686018427387904 : Nat)) && decide (List.length y ≤ (4611686018427387904 : Nat)) && decide (List.length z ≤ (4611686018427387904 : Nat))) (some (AV.bool (Kerb.Prin.valid (Kerb.Prin.mk x y z)), []))) fun (r : AV × Blocks) => onNilB (Prod.snd r) (AV.onBool (Prod.fst r) fun (b : Bool) => sel (!b) (some (AV.tup [AV.bs [], AV.int IntKind.i64 (103 : Int)], [])) (sel (decide ((↑(List.length tk) : Int) > (255 : Int))) (some (AV.tup [AV.bs [], AV.int IntKind.i64 (105 : Int)], [])) (Option.bind (chk (decide ((0 : Int) ≤ k) && decide (k < (18446744073709551616 : Int))) (some (AV.bs (Kerb.keyBytes k), []))) fun (r : AV × Blocks) => onNilB (Prod.snd r) (AV.onBs (Prod.fst r) fun (b : List UInt8) => chk (room (List.length l + List.length b) (1 : Nat)) (Option.bind (chk (decide (List.length (l ++ b) ≤ (70368744177664 : Nat))) (some (AV.ownB (l ++ b ++ Kerb.putN st (4 : Nat) false), []))) fun (r : AV × Blocks) => onNilB (Prod.snd r) (AV.onOwnB (Prod.fst r) fun (l : List UInt8) => Option.bind (chk (decide (List.length l ≤ (70368744177664 : Nat))) (some (AV.ownB (l ++ Kerb.putN en (4 : Nat) false), []))) fun (r : AV × Blocks) => onNilB (Prod.snd r) (AV.onOwnB (Prod.fst r) fun (l : List UInt8) => Option.bind (chk (decide (List.length l ≤ (70368744177664 : Nat))) (some (AV.ownB (l ++ Kerb.putN kv (1 : Nat) false), []))) fun (r : AV × Blocks) => onNilB (Prod.snd r) (AV.onOwnB (Prod.fst r) fun (l : List UInt8) => Option.bind (chk (decide (List.length l + List.length x + List.length y + List.length z ≤ (70368744170000 : Nat))) (some (AV.bs (Kerb.putPrin l (Kerb.Prin.mk x y z)), []))) fun (r : AV × Blocks) => onNilB (Prod.snd r) (AV.onBs (Prod.fst r) fun (b : List UInt8) => Option.bind (chk (decide (List.length b ≤ (70368744177664 : Nat))) (some (AV.ownB (b ++ Kerb.putN (↑(List.length tk) : Int) (1 : Nat) false), []))) fun (r : AV × Blocks) => onNilB (Prod.snd r) (AV.onOwnB (Prod.fst r) fun (l : List UInt8) => chk (room (List.length l + List.length tk) (1 : Nat)) (Option.bind (chk (decide (List.length (l ++ tk) ≤ (70368744177664 : Nat))) (some (AV.bs (Kerb.pad (l ++ tk)), []))) fun (r : AV × Blocks) => onNilB (Prod.snd r) (AV.onBs (Prod.fst r) fun (b : List UInt8) => some (AV.tup [AV.bs b, AV.int IntKind.i64 (0 : Int)], []))))))))))))))))))))) (sel (!lb == [(116 : UInt8), (107 : UInt8), (116 : UInt8), (71 : UInt8)]) (sel (!lb == [(67 : UInt8), (80 : UInt8), (87 : UInt8), (100 : UInt8)]) (some (AV.tup [AV.bs [], AV.int IntKind.i64 (80 : Int)], [])) (sel (!Kerb.within t (4294967295 : Int)) (some (AV.tup [AV.bs [], AV.int IntKind.i64 (104 : Int)], [])) (Option.bind (chk (decide (List.length lb ≤ (70368744177664 : Nat))) (some (AV.ownB (lb ++ Kerb.putN t (4 : Nat) false), []))) fun (r : AV × Blocks) => onNilB (Prod.snd r) (AV.onOwnB (Prod.fst r) fun (l : List UInt8) => sel (!lb == [(116 : UInt8), (107 : UInt8), (116 : UInt8), (71 : UInt8)]) (sel (!k == (0 : Int)) (some (AV.tup [AV.bs [], AV.int IntKind.i64 (108 : Int)], [])) (sel (!st == (0 : Int)) (some (AV.tup [AV.bs [], AV.int IntKind.i64 (108 : Int)], [])) (sel (!en == (0 : Int)) (some (AV.tup [AV.bs [], AV.int IntKind.i64 (108 : Int)], [])) (sel (!kv == (0 : Int)) (some (AV.tup [AV.bs [], AV.int IntKind.i64 (108 : Int)], [])) (sel (!(x == [] && (y == [] && z == []))) (some (AV.tup [AV.bs [], AV.int IntKind.i64 (108 : Int)], [])) (sel (decide ((↑(List.length tk) : Int) > (0 : Int))) (some (AV.tup [AV.bs [], AV.int IntKind.i64 (108 : Int)], [])) (Option.bind (chk (decide (List.length l ≤ (70368744177664 : Nat))) (some (AV.bs (Kerb.pad l), []))) fun (r : AV × Blocks) => onNilB (Prod.snd r) (AV.onBs (Prod.fst r) fun (b : List UInt8) => some (AV.tup [AV.bs b, AV.int IntKind.i64 (0 : Int)], []))))))))) (Option.bind (chk (decide ((0 : Int) ≤ k) && decide (k < (18446744073709551616 : Int))) (some (AV.bool (Kerb.keyValid k), []))) fun (r : AV × Blocks) => onNilB (Prod.snd r) (AV.onBool (Prod.fst r) fun (b : Bool) => sel (!b) (some (AV.tup [AV.bs [], AV.int IntKind.i64 (10 : Int)], [])) (sel (!Kerb.within st (4294967295 : Int)) (some (AV.tup [AV.bs [], AV.int IntKind.i64 (104 : Int)], [])) (sel (!Kerb.within en (4294967295 : Int)) (some (AV.tup [AV.bs [], AV.int IntKind.i64 (104 : Int)], [])) (sel (!Kerb.within kv (255 : Int)) (some (AV.tup [AV.bs [], AV.int IntKind.i64 (104 : Int)], [])) (Option.bind (chk (decide (List.length x ≤ (4611686018427387904 : Nat)) && decide (List.length y ≤ (4611686018427387904 : Nat)) && decide (List.length z ≤ (4611686018427387904 : Nat))) (some (AV.bool (Kerb.Prin.valid (Kerb.Prin.mk x y z)), []))) fun (r : AV × Blocks) => onNilB (Prod.snd r) (AV.onBool (Prod.fst r) fun (b : Bool) => sel (!b) (some (AV.tup [AV.bs [], AV.int IntKind.i64 (103 : Int)], [])) (sel (decide ((↑(List.length tk) : Int) > (255 : Int))) (some (AV.tup [AV.bs [], AV.int IntKind.i64 (105 : Int)], [])) (Option.bind (chk (decide ((0 : Int) ≤ k) && decide (k < (18446744073709551616 : Int))) (some (AV.bs (Kerb.keyBytes k), []))) fun (r : AV × Blocks) => onNilB (Prod.snd r) (AV.onBs (Prod.fst r) fun (b : List UInt8) => chk (room (List.length l + List.length b) (1 : Nat)) (Option.bind (chk (decide (List.length (l ++ b) ≤ (70368744177664 : Nat))) (some (AV.ownB (l ++ b ++ Kerb.putN st (4 : Nat) false), []))) fun (r : AV × Blocks) => onNilB (Prod.snd r) (AV.onOwnB (Prod.fst r) fun (l : List UInt8) => Option.bind (chk (decide (List.length l ≤ (70368744177664 : Nat))) (some (AV.ownB (l ++ Kerb.putN en (4 : Nat) false), []))) fun (r : AV × Blocks) => onNilB (Prod.snd r) (AV.onOwnB (Prod.fst r) fun (l : List UInt8) => Option.bind (chk (decide (List.length l ≤ (70368744177664 : Nat))) (some (AV.ownB (l ++ Kerb.putN kv (1 : Nat) false), []))) fun (r : AV × Blocks) => onNilB (Prod.snd r) (AV.onOwnB (Prod.fst r) fun (l : List UInt8) => Option.bind (chk (decide (List.length l + List.length x + List.length y + List.length z ≤ (70368744170000 : Nat))) (some (AV.bs (Kerb.putPrin l (Kerb.Prin.mk x y z)), []))) fun (r : AV × Blocks) => onNilB (Prod.snd r) (AV.onBs (Prod.fst r) fun (b : List UInt8) => Option.bind (chk (decide (List.length b ≤ (70368744177664 : Nat))) (some (AV.ownB (b ++ Kerb.putN (↑(List.length tk) : Int) (1 : Nat) false), []))) fun (r : AV × Blocks) => onNilB (Prod.snd r) (AV.onOwnB (Prod.fst r) fun (l : List UInt8) => chk (room (List.length l + List.length tk) (1 : Nat)) (Option.bind (chk (decide (List.length (l ++ tk) ≤ (70368744177664 : Nat))) (some (AV.bs (Kerb.pad (l ++ tk)), []))) fun (r : AV × Blocks) => onNilB (Prod.snd r) (AV.onBs (Prod.fst r) fun (b : List UInt8) => some (AV.tup [AV.bs b, AV.int IntKind.i64 (0 : Int)], []))))))))))))))))))))))) (sel (!Kerb.within t (4294967295 : Int)) (some (AV.tup [AV.bs [], AV.int IntKind.i64 (104 : Int)], [])) (Option.bind (chk (decide (List.length lb ≤ (70368744177664 : Nat))) (some (AV.ownB (lb ++ Kerb.putN t (4 : Nat) false), []))) fun (r : AV × Blocks) => onNilB (Prod.snd r) (AV.onOwnB (Prod.fst r) fun (l : List UInt8) => sel (!lb == [(116 : UInt8), (107 : UInt8), (116 : UInt8), (71 : UInt8)]) (sel (!k == (0 : Int)) (some (AV.tup [AV.bs [], AV.int IntKind.i64 (108 : Int)], [])) (sel (!st == (0 : Int)) (some (AV.tup [AV.bs [], AV.int IntKind.i64 (108 : Int)], [])) (sel (!en == (0 : Int)) (some (AV.tup [AV.bs [], AV.int IntKind.i64 (108 : Int)], [])) (sel (!kv == (0 : Int)) (some (AV.tup [AV.bs [], AV.int IntKind.i64 (108 : Int)], [])) (sel (!(x == [] && (y == [] && z == []))) (some (AV.tup [AV.bs [], AV.int IntKind.i64 (108 : Int)], [])) (sel (decide ((↑(List.length tk) : Int) > (0 : Int))) (some (AV.tup [AV.bs [], AV.int IntKind.i64 (108 : Int)], [])) (Option.bind (chk (decide (List.length l ≤ (70368744177664 : Nat))) (some (AV.bs (Kerb.pad l), []))) fun (r : AV × Blocks) => onNilB (Prod.snd r) (AV.onBs (Prod.fst r) fun (b : List UInt8) => some (AV.tup [AV.bs b, AV.int IntKind.i64 (0 : Int)], []))))))))) (Option.bind (chk (decide ((0 : Int) ≤ k) && decide (k < (18446744073709551616 : Int))) (some (AV.bool (Kerb.keyValid k), []))) fun (r : AV × Blocks) => onNilB (Prod.snd r) (AV.onBool (Prod.fst r) fun (b : Bool) => sel (!b) (some (AV.tup [AV.bs [], AV.int IntKind.i64 (10 : Int)], [])) (sel (!Kerb.within st (4294967295 : Int)) (some (AV.tup [AV.bs [], AV.int IntKind.i64 (104 : Int)], [])) (sel (!Kerb.within en (4294967295 : Int)) (some (AV.tup [AV.bs [], AV.int IntKind.i64 (104 : Int)], [])) (sel (!Kerb.within kv (255 : Int)) (some (AV.tup [AV.bs [], AV.int IntKind.i64 (104 : Int)], [])) (Option.bind (chk (decide (List.length x ≤ (4611686018427387904 : Nat)) && decide (List.length y ≤ (4611686018427387904 : Nat)) && decide (List.length z ≤ (4611686018427387904 : Nat))) (some (AV.bool (Kerb.Prin.valid (Kerb.Prin.mk x y z)), []))) fun (r : AV × Blocks) => onNilB (Prod.snd r) (AV.onBool (Prod.fst r) fun (b : Bool) => sel (!b) (some (AV.tup [AV.bs [], AV.int IntKind.i64 (103 : Int)], [])) (sel (decide ((↑(List.length tk) : Int) > (255 : Int))) (some (AV.tup [AV.bs [], AV.int IntKind.i64 (105 : Int)], [])) (Option.bind (chk (decide ((0 : Int) ≤ k) && decide (k < (18446744073709551616 : Int))) (some (AV.bs (Kerb.keyBytes k), []))) fun (r : AV × Blocks) => onNilB (Prod.snd r) (AV.onBs (Prod.fst r) fun (b : List UInt8) => chk (room (List.length l + List.length b) (1 : Nat)) (Option.bind (chk (decide (List.length (l ++ b) ≤ (70368744177664 : Nat))) (some (AV.ownB (l ++ b ++ Kerb.putN st (4 : Nat) false), []))) fun (r : AV × Blocks) => onNilB (Prod.snd r) (AV.onOwnB (Prod.fst r) fun (l : List UInt8) => Option.bind (chk (decide (List.length l ≤ (70368744177664 : Nat))) (some (AV.ownB (l ++ Kerb.putN en (4 : Nat) false), []))) fun (r : AV × Blocks) => onNilB (Prod.snd r) (AV.onOwnB (Prod.fst r) fun (l : List UInt8) => Option.bind (chk (decide (List.length l ≤ (70368744177664 : Nat))) (some (AV.ownB (l ++ Kerb.putN kv (1 : Nat) false), []))) fun (r : AV × Blocks) => onNilB (Prod.snd r) (AV.onOwnB (Prod.fst r) fun (l : List UInt8) => Option.bind (chk (decide (List.length l + List.length x + List.length y + List.length z ≤ (70368744170000 : Nat))) (some (AV.bs (Kerb.putPrin l (Kerb.Prin.mk x y z)), []))) fun (r : AV × Blocks) => onNilB (Prod.snd r) (AV.onBs (Prod.fst r) fun (b : List UInt8) => Option.bind (chk (decide (List.length b ≤ (70368744177664 : Nat))) (some (AV.ownB (b ++ Kerb.putN (↑(List.length tk) : Int) (1 : Nat) false), []))) fun (r : AV × Blocks) => onNilB (Prod.snd r) (AV.onOwnB (Prod.fst r) fun (l : List UInt8) => chk (room (List.length l + List.length tk) (1 : Nat)) (Option.bind (chk (decide (List.length (l ++ tk) ≤ (70368744177664 : Nat))) (some (AV.bs (Kerb.pad (l ++ tk)), []))) fun (r : AV × Blocks) => onNilB (Prod.snd r) (AV.onBs (Prod.fst r) fun (b : List UInt8) => some (AV.tup [AV.bs b, AV.int IntKind.i64 (0 : Int)], []))))))))))))))))))))))) := by kernel_rfl

theorem p10 (lb : List UInt8) (t k st en kv : Int) (x y z tk : List UInt8) (hpre : (decide (x.length ≤ 4611686018427387904) && decide (y.length ≤ 4611686018427387904) && decide (z.length ≤ 4611686018427387904) && decide (0 ≤ k) && decide (k < 18446744073709551616)) = true) : runFn (G.env 10 4) G.rts (G.own 10) Tryz.f10 [.agg [.str lb, .int .i64 t, .int .u64 k, .int .i64 st, .int .i64 en, .int .i64 kv, .str x, .str y, .str z, .bs tk]] [] = some (.tup [.bs (Kerb.encodeKaAnswer ⟨lb, t, k, st, en, kv, ⟨x, y, z⟩, tk⟩).val, .int .i64 (Kerb.encodeKaAnswer ⟨lb, t, k, st, en, kv, ⟨x, y, z⟩, tk⟩).err], []) := by
  rw [r10]
  have eGet : ([103, 84, 71, 83] : List UInt8) = Kerb.lGet := rfl
  have eTick : ([103, 84, 75, 84] : List UInt8) = Kerb.lTicket := rfl
  have eChg : ([67, 80, 87, 108] : List UInt8) = Kerb.lChange := rfl
  have eDone : ([67, 80, 87, 100] : List UInt8) = Kerb.lDone := rfl
  have eGot : ([116, 103, 115, 84] : List UInt8) = Kerb.lGot := rfl
  have eGiven : ([116, 107, 116, 71] : List UInt8) = Kerb.lGiven := rfl
  
  have hpre' := hpre
  simp only [Bool.and_eq_true, decide_eq_true_eq] at hpre
  have hk : (decide (0 ≤ k) && decide (k < 18446744073709551616)) = true := by simp; omega
  have hv : (decide (x.length ≤ 4611686018427387904) && decide (y.length ≤ 4611686018427387904) && decide (z.length ≤ 4611686018427387904)) = true := by simp; omega
  simp only [onInt_int, onU8_u8, onBool_bool, onStr_str, onBs_bs, onSl_sl, onAgg_agg, onTup_tup, onOwnB_ownB, onOwnL_ownL, onCons_cons, onNil_nil, onNilB_nil, onConsB_cons, chk_true, chk_bind, sel_bind, some_bind, exK_ret, exK_exit, sel_true, sel_false, eDone, eGot, eGiven, hk, hv]
  unfold Kerb.encodeKaAnswer
  simp only
  cases hg : (lb == Kerb.lGot)
  case true =>
    have ht : Kerb.ticketed lb = true := by simp [Kerb.ticketed, hg]
    have hl : lb.length = 4 := by rw [eq_of_beq hg]; rfl
    simp only [ht, sel_true, Bool.not_true, Bool.false_and]
  
    rw [if_neg (by simp)]
    cases h1 : Kerb.within t 4294967295
    · rfl
    rw [Bool.not_true, sel_false, if_neg (by simp), if_pos trivial, chk_of (by simp; omega)]
    cases h2 : Kerb.keyValid k
    · rfl
    rw [Bool.not_true, sel_false, if_neg (by simp)]
    cases h3 : Kerb.within st 4294967295
    · rfl
    rw [Bool.not_true, sel_false]
    cases h4 : Kerb.within en 4294967295
    · rfl
    rw [Bool.not_true, sel_false]
    cases h5 : Kerb.within kv 255
    · rfl
    rw [Bool.not_true, sel_false, if_neg (by simp)]
    cases h6 : Kerb.Prin.valid ⟨x, y, z⟩
    · rfl
    have l1 := Kerb.valid_len h6
    simp only at l1
    rw [Bool.not_true, sel_false, if_neg (by simp)]
    by_cases h7 : 255 < tk.length
    · rw [sel_pos (by simp; omega), if_pos h7]
    rw [sel_neg (by simp; omega), if_neg h7]
    rw [chk_of (Kerb.room_ok (by simp [Kerb.putN_len, Kerb.keyBytes_len]; omega)), chk_of (by simp [Kerb.putN_len, Kerb.keyBytes_len]; omega), chk_of (by simp [Kerb.putN_len, Kerb.keyBytes_len]; omega), chk_of (by simp [Kerb.putN_len, Kerb.keyBytes_len]; omega), chk_of (by simp [Kerb.putN_len, Kerb.keyBytes_len]; omega), chk_of (by simp [Kerb.putN_len, Kerb.keyBytes_len, Kerb.putPrin_len]; omega), chk_of (Kerb.room_ok (by simp [Kerb.putN_len, Kerb.keyBytes_len, Kerb.putPrin_len]; omega)), chk_of (by simp [Kerb.putN_len, Kerb.keyBytes_len, Kerb.putPrin_len]; omega)]
    simp [Kerb.putTick]
  
  cases hgv : (lb == Kerb.lGiven)
  case true =>
    have ht : Kerb.ticketed lb = true := by simp [Kerb.ticketed, hgv]
    have hl : lb.length = 4 := by rw [eq_of_beq hgv]; rfl
    simp only [ht, sel_true, sel_false, Bool.not_true, Bool.false_and]
  
    rw [if_neg (by simp)]
    cases h1 : Kerb.within t 4294967295
    · rfl
    rw [Bool.not_true, sel_false, if_neg (by simp), if_pos trivial, chk_of (by simp; omega)]
    cases h2 : Kerb.keyValid k
    · rfl
    rw [Bool.not_true, sel_false, if_neg (by simp)]
    cases h3 : Kerb.within st 4294967295
    · rfl
    rw [Bool.not_true, sel_false]
    cases h4 : Kerb.within en 4294967295
    · rfl
    rw [Bool.not_true, sel_false]
    cases h5 : Kerb.within kv 255
    · rfl
    rw [Bool.not_true, sel_false, if_neg (by simp)]
    cases h6 : Kerb.Prin.valid ⟨x, y, z⟩
    · rfl
    have l1 := Kerb.valid_len h6
    simp only at l1
    rw [Bool.not_true, sel_false, if_neg (by simp)]
    by_cases h7 : 255 < tk.length
    · rw [sel_pos (by simp; omega), if_pos h7]
    rw [sel_neg (by simp; omega), if_neg h7]
    rw [chk_of (Kerb.room_ok (by simp [Kerb.putN_len, Kerb.keyBytes_len]; omega)), chk_of (by simp [Kerb.putN_len, Kerb.keyBytes_len]; omega), chk_of (by simp [Kerb.putN_len, Kerb.keyBytes_len]; omega), chk_of (by simp [Kerb.putN_len, Kerb.keyBytes_len]; omega), chk_of (by simp [Kerb.putN_len, Kerb.keyBytes_len]; omega), chk_of (by simp [Kerb.putN_len, Kerb.keyBytes_len, Kerb.putPrin_len]; omega), chk_of (Kerb.room_ok (by simp [Kerb.putN_len, Kerb.keyBytes_len, Kerb.putPrin_len]; omega)), chk_of (by simp [Kerb.putN_len, Kerb.keyBytes_len, Kerb.putPrin_len]; omega)]
    simp [Kerb.putTick]
  
  have ht : Kerb.ticketed lb = false := by simp [Kerb.ticketed, hg, hgv]
  simp only [ht, sel_true, sel_false, Bool.not_false, Bool.true_and]
  cases hc : (lb == Kerb.lDone)
  · rfl
  have hl : lb.length = 4 := by rw [eq_of_beq hc]; rfl
  rw [Bool.not_true, sel_false, if_neg (by simp)]
  cases h1 : Kerb.within t 4294967295
  · rfl
  rw [Bool.not_true, sel_false, if_neg (by simp), if_neg (by simp), chk_of (by simp; omega)]
  by_cases h2 : k = 0
  case neg => rw [sel_pos (by simpa using h2), if_pos (.inl h2)]
  rw [sel_neg (by simp [h2])]
  by_cases h3 : st = 0
  case neg => rw [sel_pos (by simpa using h3), if_pos (.inr (.inl h3))]
  rw [sel_neg (by simp [h3])]
  by_cases h4 : en = 0
  case neg => rw [sel_pos (by simpa using h4), if_pos (.inr (.inr (.inl h4)))]
  rw [sel_neg (by simp [h4])]
  by_cases h5 : kv = 0
  case neg => rw [sel_pos (by simpa using h5), if_pos (.inr (.inr (.inr (.inl h5))))]
  rw [sel_neg (by simp [h5])]
  show sel (!(Kerb.Prin.isNo ⟨x, y, z⟩)) _ _ = _
  cases h6 : Kerb.Prin.isNo ⟨x, y, z⟩
  · rw [if_pos (.inr (.inr (.inr (.inr (.inl rfl)))))]; rfl
  rw [Bool.not_true, sel_false]
  by_cases h7 : tk = []
  case neg => rw [sel_pos (by have := List.length_pos_iff.2 h7; simp; omega), if_pos (.inr (.inr (.inr (.inr (.inr h7)))))]
  rw [sel_neg (by simp [h7]), if_neg (by simp [h2, h3, h4, h5, h7]), chk_of (by simp [Kerb.putN_len]; omega)]

theorem w10 : Walked Tryz.prog G 10 4 sp10 := by
  refine ⟨Tryz.f10, Tryz.func10, by decide +kernel, rfl, fun xs bl r h => ?_⟩
  unfold sp10 at h
  split at h
  · obtain ⟨h1, h2⟩ := chk_inv h; cases h2; exact p10 _ _ _ _ _ _ _ _ _ _ h1
  · cases h

/- (kerbsuite/kerbsuitelaw22.Ask).answer -/
theorem r11 (ao au ak as_ al : UInt8) (at_ ast aen : Int) (aky : UInt8) (atk abx : List UInt8) (aex : UInt8) : runFn (G.env 11 4) G.rts (G.own 11) Tryz.f11 [.agg [.u8 ao, .u8 au, .u8 ak, .u8 as_, .u8 al, .int .u32 at_, .int .u32 ast, .int .u32 aen, .u8 aky, .bs atk, .bs abx, .u8 aex]] [] = chk (decide ((0 : Int) ≤ Int.tmod (IntKind.wrap IntKind.i64 (↑(UInt8.toNat al) : Int)) (4 : Int)) && decide (Int.tmod (IntKind.wrap IntKind.i64 (↑(UInt8.toNat al) : Int)) (4 : Int) < (↑(List.length [AV.str [(116 : UInt8), (103 : UInt8), (115 : UInt8), (84 : UInt8)], AV.str [(116 : UInt8), (107 : UInt8), (116 : UInt8), (71 : UInt8)], AV.str [(67 : UInt8), (80 : UInt8), (87 : UInt8), (100 : UInt8)], AV.str [(103 : UInt8), (84 : UInt8), (71 : UInt8), (83 : UInt8)]]) : Int)) && true) (AV.onStr (List.getD [AV.str [(116 : UInt8), (103 : UInt8), (115 : UInt8), (84 : UInt8)], AV.str [(116 : UInt8), (107 : UInt8), (116 : UInt8), (71 : UInt8)], AV.str [(67 : UInt8), (80 : UInt8), (87 : UInt8), (100 : UInt8)], AV.str [(103 : UInt8), (84 : UInt8), (71 : UInt8), (83 : UInt8)]] (Int.toNat (Int.tmod (IntKind.wrap IntKind.i64 (↑(UInt8.toNat al) : Int)) (4 : Int))) AV.undef) fun (b : List UInt8) => sel (b == [(67 : UInt8), (80 : UInt8), (87 : UInt8), (100 : UInt8)]) (sel (!UInt8.ofNat (Int.toNat (Int.tmod (↑(UInt8.toNat aex) : Int) (↑(UInt8.toNat (16 : UInt8)) : Int))) == (8 : UInt8)) (some (AV.agg [AV.str b, AV.int IntKind.i64 (IntKind.wrap IntKind.i64 at_), AV.int IntKind.u64 (0 : Int), AV.int IntKind.i64 (0 : Int), AV.int IntKind.i64 (0 : Int), AV.int IntKind.i64 (0 : Int), AV.str [], AV.str [], AV.str [], AV.bs []], [])) (Option.bind (chk (decide ((0 : Int) ≤ IntKind.wrap IntKind.i64 (↑(UInt8.toNat aky) : Int)) && decide (IntKind.wrap IntKind.i64 (↑(UInt8.toNat aky) : Int) ≤ (1000 : Int))) (some (AV.int IntKind.u64 (Kerb.session (IntKind.wrap IntKind.i64 (↑(UInt8.toNat aky) : Int))), []))) fun (r : AV × Blocks) => onNilB (Prod.snd r) (AV.onInt IntKind.u64 (Prod.fst r) fun (n : Int) => Option.bind (chk (decide ((0 : Int) ≤ IntKind.wrap IntKind.i64 (↑(UInt8.toNat as_) : Int)) && decide (IntKind.wrap IntKind.i64 (↑(UInt8.toNat as_) : Int) ≤ (4611686018427387904 : Int))) (some (AV.agg [AV.str (Kerb.Prin.name (Kerb.service (IntKind.wrap IntKind.i64 (↑(UInt8.toNat as_) : Int)))), AV.str (Kerb.Prin.inst (Kerb.service (IntKind.wrap IntKind.i64 (↑(UInt8.toNat as_) : Int)))), AV.str (Kerb.Prin.realm (Kerb.service (IntKind.wrap IntKind.i64 (↑(UInt8.toNat as_) : Int))))], []))) fun (r : AV × Blocks) => onNilB (Prod.snd r) (AV.onAgg (Prod.fst r) fun (cs : List AV) => onCons cs fun (x : AV) (r : List AV) => AV.onStr x fun (b_1 : List UInt8) => onCons r fun (x : AV) (r : List AV) => AV.onStr x fun (b_2 : List UInt8) => onCons r fun (x : AV) (r : List AV) => AV.onStr x fun (b_3 : List UInt8) => onNil r (some (AV.agg [AV.str b, AV.int IntKind.i64 (IntKind.wrap IntKind.i64 at_), AV.int IntKind.u64 n, AV.int IntKind.i64 (IntKind.wrap IntKind.i64 ast), AV.int IntKind.i64 (IntKind.wrap IntKind.i64 aen), AV.int IntKind.i64 (IntKind.wrap IntKind.i64 (↑(UInt8.toNat ak) : Int)), AV.str b_1, AV.str b_2, AV.str b_3, AV.bs atk], [])))))) (Option.bind (chk (decide ((0 : Int) ≤ IntKind.wrap IntKind.i64 (↑(UInt8.toNat aky) : Int)) && decide (IntKind.wrap IntKind.i64 (↑(UInt8.toNat aky) : Int) ≤ (1000 : Int))) (some (AV.int IntKind.u64 (Kerb.session (IntKind.wrap IntKind.i64 (↑(UInt8.toNat aky) : Int))), []))) fun (r : AV × Blocks) => onNilB (Prod.snd r) (AV.onInt IntKind.u64 (Prod.fst r) fun (n : Int) => Option.bind (chk (decide ((0 : Int) ≤ IntKind.wrap IntKind.i64 (↑(UInt8.toNat as_) : Int)) && decide (IntKind.wrap IntKind.i64 (↑(UInt8.toNat as_) : Int) ≤ (4611686018427387904 : Int))) (some (AV.agg [AV.str (Kerb.Prin.name (Kerb.service (IntKind.wrap IntKind.i64 (↑(UInt8.toNat as_) : Int)))), AV.str (Kerb.Prin.inst (Kerb.service (IntKind.wrap IntKind.i64 (↑(UInt8.toNat as_) : Int)))), AV.str (Kerb.Prin.realm (Kerb.service (IntKind.wrap IntKind.i64 (↑(UInt8.toNat as_) : Int))))], []))) fun (r : AV × Blocks) => onNilB (Prod.snd r) (AV.onAgg (Prod.fst r) fun (cs : List AV) => onCons cs fun (x : AV) (r : List AV) => AV.onStr x fun (b_1 : List UInt8) => onCons r fun (x : AV) (r : List AV) => AV.onStr x fun (b_2 : List UInt8) => onCons r fun (x : AV) (r : List AV) => AV.onStr x fun (b_3 : List UInt8) => onNil r (some (AV.agg [AV.str b, AV.int IntKind.i64 (IntKind.wrap IntKind.i64 at_), AV.int IntKind.u64 n, AV.int IntKind.i64 (IntKind.wrap IntKind.i64 ast), AV.int IntKind.i64 (IntKind.wrap IntKind.i64 aen), AV.int IntKind.i64 (IntKind.wrap IntKind.i64 (↑(UInt8.toNat ak) : Int)), AV.str b_1, AV.str b_2, AV.str b_3, AV.bs atk], [])))))) := by kernel_rfl

theorem p11 (ao au ak as_ al : UInt8) (at_ ast aen : Int) (aky : UInt8) (atk abx : List UInt8) (aex : UInt8) (hpre : (decide (0 ≤ at_) && decide (at_ ≤ 4294967295) && decide (0 ≤ ast) && decide (ast ≤ 4294967295) && decide (0 ≤ aen) && decide (aen ≤ 4294967295)) = true) : runFn (G.env 11 4) G.rts (G.own 11) Tryz.f11 [.agg [.u8 ao, .u8 au, .u8 ak, .u8 as_, .u8 al, .int .u32 at_, .int .u32 ast, .int .u32 aen, .u8 aky, .bs atk, .bs abx, .u8 aex]] [] = some (.agg [.str ((Kerb.Ask.mk ao au ak as_ al at_ ast aen aky atk abx aex).answer).label, .int .i64 ((Kerb.Ask.mk ao au ak as_ al at_ ast aen aky atk abx aex).answer).time, .int .u64 ((Kerb.Ask.mk ao au ak as_ al at_ ast aen aky atk abx aex).answer).session, .int .i64 ((Kerb.Ask.mk ao au ak as_ al at_ ast aen aky atk abx aex).answer).start, .int .i64 ((Kerb.Ask.mk ao au ak as_ al at_ ast aen aky atk abx aex).answer).stop, .int .i64 ((Kerb.Ask.mk ao au ak as_ al at_ ast aen aky atk abx aex).answer).kvno, .str ((Kerb.Ask.mk ao au ak as_ al at_ ast aen aky atk abx aex).answer).service.name, .str ((Kerb.Ask.mk ao au ak as_ al at_ ast aen aky atk abx aex).answer).service.inst, .str ((Kerb.Ask.mk ao au ak as_ al at_ ast aen aky atk abx aex).answer).service.realm, .bs ((Kerb.Ask.mk ao au ak as_ al at_ ast aen aky atk abx aex).answer).ticket], []) := by
  rw [r11]
  simp only [Bool.and_eq_true, decide_eq_true_eq] at hpre
  have hex := aex.toNat_lt
  have hal := al.toNat_lt
  have hky := Kerb.u8i_bd aky
  have has := Kerb.u8i_bd as_
  simp only [onInt_int, onU8_u8, onBool_bool, onStr_str, onBs_bs, onSl_sl, onAgg_agg, onTup_tup, onOwnB_ownB, onOwnL_ownL, onCons_cons, onNil_nil, onNilB_nil, onConsB_cons, chk_true, chk_bind, sel_bind, some_bind, exK_ret, exK_exit, sel_true, sel_false, Kerb.wrap_u8i]
  have et : Int.tmod (Kerb.u8i al) (4 : Int) = ((al.toNat % 4 : Nat) : Int) := by
    unfold Kerb.u8i; rw [Int.tmod_eq_emod_of_nonneg (by omega)]; omega
  have q : ∀ k : Nat, k < 256 → (UInt8.ofNat (Int.toNat (Int.tmod (aex.toNat : Int) ((16 : UInt8).toNat : Int))) == UInt8.ofNat k) = decide (Kerb.Ask.ex (Kerb.Ask.mk ao au ak as_ al at_ ast aen aky atk abx aex) = k) := fun k hk => by
    have : Int.toNat (Int.tmod (aex.toNat : Int) ((16 : UInt8).toNat : Int)) = aex.toNat % 16 := Kerb.tmod_u8 aex 16 (by omega)
    rw [this, Kerb.u8_beq (by omega) hk]; rfl
  have q8 : (_ == (8 : UInt8)) = _ := q 8 (by omega)
  have q9 : (_ == (9 : UInt8)) = _ := q 9 (by omega)
  have q10 : (_ == (10 : UInt8)) = _ := q 10 (by omega)
  have c1 : (decide ((0 : Int) ≤ Kerb.u8i aky) && decide (Kerb.u8i aky ≤ 1000)) = true := by simp; omega
  have c2 : (decide ((0 : Int) ≤ Kerb.u8i as_) && decide (Kerb.u8i as_ ≤ 4611686018427387904)) = true := by simp; omega
  have w1 : IntKind.wrap IntKind.i64 at_ = at_ := wrap_i64 (by omega) (by omega)
  have w2 : IntKind.wrap IntKind.i64 ast = ast := wrap_i64 (by omega) (by omega)
  have w3 : IntKind.wrap IntKind.i64 aen = aen := wrap_i64 (by omega) (by omega)
  simp only [et, q8, q9, q10, c1, c2, w1, w2, w3, chk_true, Int.toNat_natCast]
  have hm : al.toNat % 4 = 0 ∨ al.toNat % 4 = 1 ∨ al.toNat % 4 = 2 ∨ al.toNat % 4 = 3 := by omega
  generalize hx : Kerb.Ask.ex (Kerb.Ask.mk ao au ak as_ al at_ ast aen aky atk abx aex) = y
  
  unfold Kerb.Ask.answer Kerb.Ask.lab
  simp only [hx]
  have hc : y = 8 ∨ y ≠ 8 := by omega
  rcases hm with h | h | h | h <;> rcases hc with g | g <;> simp_all [sel, chk, AV.onStr, Kerb.lGot, Kerb.lGiven, Kerb.lDone, Kerb.lGet, Kerb.noPrin]

theorem w11 : Walked Tryz.prog G 11 4 sp11 := by
  refine ⟨Tryz.f11, Tryz.func11, by decide +kernel, rfl, fun xs bl r h => ?_⟩
  unfold sp11 at h
  split at h
  · obtain ⟨h1, h2⟩ := chk_inv h; cases h2; exact p11 _ _ _ _ _ _ _ _ _ _ _ _ h1
  · cases h

/- (*kerbsuite/kamessage.reader).octet -/
theorem r46 (B : List UInt8) (at_ : Int) (bad : Bool) : runFn (G.env 46 4) G.rts (G.own 46) Tryz.f46 [.ptr 0 0] [(0, [.bs B, .int .i64 at_, .bool bad])] = Option.bind (chk (decide (List.length B ≤ (4611686018427387904 : Nat))) (some (AV.tup [AV.int IntKind.i64 (Kerb.Got.val (Kerb.get B at_ (1 : Int) false)), AV.int IntKind.i64 (Kerb.Got.next (Kerb.get B at_ (1 : Int) false)), AV.int IntKind.i64 (Kerb.Got.err (Kerb.get B at_ (1 : Int) false))], []))) fun (r : AV × Blocks) => onNilB (Prod.snd r) (AV.onTup (Prod.fst r) fun (vs : List AV) => onCons vs fun (x : AV) (r : List AV) => AV.onInt IntKind.i64 x fun (n : Int) => onCons r fun (x : AV) (r : List AV) => AV.onInt IntKind.i64 x fun (n_1 : Int) => onCons r fun (x : AV) (r : List AV) => AV.onInt IntKind.i64 x fun (n_2 : Int) => onNil r (sel (!!(bad || !n_2 == (0 : Int))) (some (AV.int IntKind.i64 (0 : Int), [[AV.bs B, AV.int IntKind.i64 (bif bad || !n_2 == (0 : Int) then at_ else n_1), AV.bool (bad || !n_2 == (0 : Int))]])) (some (AV.int IntKind.i64 n, [[AV.bs B, AV.int IntKind.i64 (bif bad || !n_2 == (0 : Int) then at_ else n_1), AV.bool (bad || !n_2 == (0 : Int))]])))) := by kernel_rfl

theorem p46 (B : List UInt8) (at_ : Int) (bad : Bool) (hpre : (decide (B.length ≤ 140737488355328)) = true) : runFn (G.env 46 4) G.rts (G.own 46) Tryz.f46 [.ptr 0 0] [(0, [.bs B, .int .i64 at_, .bool bad])] = some (.int .i64 (Kerb.pGet B 1 at_ bad).val, [[.bs B, .int .i64 (Kerb.pGet B 1 at_ bad).pos, .bool (Kerb.pGet B 1 at_ bad).bad]]) := by
  rw [r46]
  have hb := of_decide_eq_true hpre
  simp only [onInt_int, onU8_u8, onBool_bool, onStr_str, onBs_bs, onSl_sl, onAgg_agg, onTup_tup, onOwnB_ownB, onOwnL_ownL, onCons_cons, onNil_nil, onNilB_nil, onConsB_cons, chk_true, chk_bind, sel_bind, some_bind, exK_ret, exK_exit, sel_true, sel_false]
  rw [chk_of (by simp; omega)]
  unfold Kerb.pGet
  cases bad
  · simp only [Bool.false_or]
    generalize hq : (!(_ == (0 : Int))) = q
    cases q <;> rfl
  · rfl

theorem w46 : Walked Tryz.prog G 46 4 sp46 := by
  refine ⟨Tryz.f46, Tryz.func46, by decide +kernel, rfl, fun xs bl r h => ?_⟩
  unfold sp46 at h
  split at h
  · obtain ⟨h1, h2⟩ := chk_inv h; cases h2; exact p46 _ _ _ h1
  · cases h

/- (*kerbsuite/kamessage.reader).name -/
theorem r47 (B : List UInt8) (at_ : Int) (bad : Bool) : runFn (G.env 47 4) G.rts (G.own 47) Tryz.f47 [.ptr 0 0] [(0, [.bs B, .int .i64 at_, .bool bad])] = Option.bind (chk (decide (List.length B ≤ (4611686018427387904 : Nat))) (some (AV.tup [AV.str (Kerb.GotB.val (Kerb.text B at_)), AV.int IntKind.i64 (Kerb.GotB.next (Kerb.text B at_)), AV.int IntKind.i64 (Kerb.GotB.err (Kerb.text B at_))], []))) fun (r : AV × Blocks) => onNilB (Prod.snd r) (AV.onTup (Prod.fst r) fun (vs : List AV) => onCons vs fun (x : AV) (r : List AV) => AV.onStr x fun (b : List UInt8) => onCons r fun (x : AV) (r : List AV) => AV.onInt IntKind.i64 x fun (n : Int) => onCons r fun (x : AV) (r : List AV) => AV.onInt IntKind.i64 x fun (n_1 : Int) => onNil r (sel (!!(bad || !n_1 == (0 : Int))) (some (AV.str [], [[AV.bs B, AV.int IntKind.i64 (bif bad || !n_1 == (0 : Int) then at_ else n), AV.bool (bad || !n_1 == (0 : Int))]])) (some (AV.str b, [[AV.bs B, AV.int IntKind.i64 (bif bad || !n_1 == (0 : Int) then at_ else n), AV.bool (bad || !n_1 == (0 : Int))]])))) := by kernel_rfl

theorem p47 (B : List UInt8) (at_ : Int) (bad : Bool) (hpre : (decide (B.length ≤ 140737488355328)) = true) : runFn (G.env 47 4) G.rts (G.own 47) Tryz.f47 [.ptr 0 0] [(0, [.bs B, .int .i64 at_, .bool bad])] = some (.str (Kerb.pText B at_ bad).val, [[.bs B, .int .i64 (Kerb.pText B at_ bad).pos, .bool (Kerb.pText B at_ bad).bad]]) := by
  rw [r47]
  have hb := of_decide_eq_true hpre
  simp only [onInt_int, onU8_u8, onBool_bool, onStr_str, onBs_bs, onSl_sl, onAgg_agg, onTup_tup, onOwnB_ownB, onOwnL_ownL, onCons_cons, onNil_nil, onNilB_nil, onConsB_cons, chk_true, chk_bind, sel_bind, some_bind, exK_ret, exK_exit, sel_true, sel_false]
  rw [chk_of (by simp; omega)]
  unfold Kerb.pText
  cases bad
  · simp only [Bool.false_or]
    generalize hq : (!(_ == (0 : Int))) = q
    cases q <;> rfl
  · rfl

theorem w47 : Walked Tryz.prog G 47 4 sp47 := by
  refine ⟨Tryz.f47, Tryz.func47, by decide +kernel, rfl, fun xs bl r h => ?_⟩
  unfold sp47 at h
  split at h
  · obtain ⟨h1, h2⟩ := chk_inv h; cases h2; exact p47 _ _ _ h1
  · cases h

/- (*kerbsuite/kamessage.reader).short -/
theorem r50 (B : List UInt8) (at_ : Int) (bad : Bool) : runFn (G.env 50 4) G.rts (G.own 50) Tryz.f50 [.ptr 0 0] [(0, [.bs B, .int .i64 at_, .bool bad])] = Option.bind (chk (decide (List.length B ≤ (4611686018427387904 : Nat))) (some (AV.tup [AV.int IntKind.i64 (Kerb.Got.val (Kerb.get B at_ (2 : Int) false)), AV.int IntKind.i64 (Kerb.Got.next (Kerb.get B at_ (2 : Int) false)), AV.int IntKind.i64 (Kerb.Got.err (Kerb.get B at_ (2 : Int) false))], []))) fun (r : AV × Blocks) => onNilB (Prod.snd r) (AV.onTup (Prod.fst r) fun (vs : List AV) => onCons vs fun (x : AV) (r : List AV) => AV.onInt IntKind.i64 x fun (n : Int) => onCons r fun (x : AV) (r : List AV) => AV.onInt IntKind.i64 x fun (n_1 : Int) => onCons r fun (x : AV) (r : List AV) => AV.onInt IntKind.i64 x fun (n_2 : Int) => onNil r (sel (!!(bad || !n_2 == (0 : Int))) (some (AV.int IntKind.i64 (0 : Int), [[AV.bs B, AV.int IntKind.i64 (bif bad || !n_2 == (0 : Int) then at_ else n_1), AV.bool (bad || !n_2 == (0 : Int))]])) (some (AV.int IntKind.i64 n, [[AV.bs B, AV.int IntKind.i64 (bif bad || !n_2 == (0 : Int) then at_ else n_1), AV.bool (bad || !n_2 == (0 : Int))]])))) := by kernel_rfl

theorem p50 (B : List UInt8) (at_ : Int) (bad : Bool) (hpre : (decide (B.length ≤ 140737488355328)) = true) : runFn (G.env 50 4) G.rts (G.own 50) Tryz.f50 [.ptr 0 0] [(0, [.bs B, .int .i64 at_, .bool bad])] = some (.int .i64 (Kerb.pGet B 2 at_ bad).val, [[.bs B, .int .i64 (Kerb.pGet B 2 at_ bad).pos, .bool (Kerb.pGet B 2 at_ bad).bad]]) := by
  rw [r50]
  have hb := of_decide_eq_true hpre
  simp only [onInt_int, onU8_u8, onBool_bool, onStr_str, onBs_bs, onSl_sl, onAgg_agg, onTup_tup, onOwnB_ownB, onOwnL_ownL, onCons_cons, onNil_nil, onNilB_nil, onConsB_cons, chk_true, chk_bind, sel_bind, some_bind, exK_ret, exK_exit, sel_true, sel_false]
  rw [chk_of (by simp; omega)]
  unfold Kerb.pGet
  cases bad
  · simp only [Bool.false_or]
    generalize hq : (!(_ == (0 : Int))) = q
    cases q <;> rfl
  · rfl

theorem w50 : Walked Tryz.prog G 50 4 sp50 := by
  refine ⟨Tryz.f50, Tryz.func50, by decide +kernel, rfl, fun xs bl r h => ?_⟩
  unfold sp50 at h
  split at h
  · obtain ⟨h1, h2⟩ := chk_inv h; cases h2; exact p50 _ _ _ h1
  · cases h

/- (*kerbsuite/kerbsuiteref5.Reader).Octet -/
theorem r53 (B : List UInt8) (at_ : Int) (li bad : Bool) : runFn (G.env 53 4) G.rts (G.own 53) Tryz.f53 [.ptr 0 0] [(0, [.bs B, .int .i64 at_, .bool li, .bool bad])] = Option.bind (chk (decide (List.length B ≤ (140737488355328 : Nat))) (some (AV.tup [AV.int IntKind.i64 (Kerb.Got.val (Kerb.get B at_ (1 : Int) false)), AV.int IntKind.i64 (Kerb.Got.next (Kerb.get B at_ (1 : Int) false)), AV.int IntKind.i64 (Kerb.Got.err (Kerb.get B at_ (1 : Int) false))], []))) fun (r : AV × Blocks) => onNilB (Prod.snd r) (AV.onTup (Prod.fst r) fun (vs : List AV) => onCons vs fun (x : AV) (r : List AV) => AV.onInt IntKind.i64 x fun (n : Int) => onCons r fun (x : AV) (r : List AV) => AV.onInt IntKind.i64 x fun (n_1 : Int) => onCons r fun (x : AV) (r : List AV) => AV.onInt IntKind.i64 x fun (n_2 : Int) => onNil r (some (AV.int IntKind.i64 n, [[AV.bs B, AV.int IntKind.i64 (bif bad || !n_2 == (0 : Int) then at_ else n_1), AV.bool li, AV.bool (bad || !n_2 == (0 : Int))]]))) := by kernel_rfl

theorem p53 (B : List UInt8) (at_ : Int) (li bad : Bool) (hpre : (decide (B.length ≤ 140737488355328)) = true) : runFn (G.env 53 4) G.rts (G.own 53) Tryz.f53 [.ptr 0 0] [(0, [.bs B, .int .i64 at_, .bool li, .bool bad])] = some (.int .i64 (Kerb.get B at_ 1 false).val, [[.bs B, .int .i64 (cond (bad || !((Kerb.get B at_ 1 false).err == 0)) at_ (Kerb.get B at_ 1 false).next), .bool li, .bool (bad || !((Kerb.get B at_ 1 false).err == 0))]]) := by
  rw [r53]
  simp only [onInt_int, onU8_u8, onBool_bool, onStr_str, onBs_bs, onSl_sl, onAgg_agg, onTup_tup, onOwnB_ownB, onOwnL_ownL, onCons_cons, onNil_nil, onNilB_nil, onConsB_cons, chk_true, chk_bind, sel_bind, some_bind, exK_ret, exK_exit, sel_true, sel_false]
  rw [chk_of hpre]

theorem w53 : Walked Tryz.prog G 53 4 sp53 := by
  refine ⟨Tryz.f53, Tryz.func53, by decide +kernel, rfl, fun xs bl r h => ?_⟩
  unfold sp53 at h
  split at h
  · obtain ⟨h1, h2⟩ := chk_inv h; cases h2; exact p53 _ _ _ _ h1
  · cases h

/- (*kerbsuite/kerbsuiteref5.Reader).Short -/
theorem r57 (B : List UInt8) (at_ : Int) (li bad : Bool) : runFn (G.env 57 4) G.rts (G.own 57) Tryz.f57 [.ptr 0 0] [(0, [.bs B, .int .i64 at_, .bool li, .bool bad])] = Option.bind (chk (decide (List.length B ≤ (140737488355328 : Nat))) (some (AV.tup [AV.int IntKind.i64 (Kerb.Got.val (Kerb.get B at_ (2 : Int) li)), AV.int IntKind.i64 (Kerb.Got.next (Kerb.get B at_ (2 : Int) li)), AV.int IntKind.i64 (Kerb.Got.err (Kerb.get B at_ (2 : Int) li))], []))) fun (r : AV × Blocks) => onNilB (Prod.snd r) (AV.onTup (Prod.fst r) fun (vs : List AV) => onCons vs fun (x : AV) (r : List AV) => AV.onInt IntKind.i64 x fun (n : Int) => onCons r fun (x : AV) (r : List AV) => AV.onInt IntKind.i64 x fun (n_1 : Int) => onCons r fun (x : AV) (r : List AV) => AV.onInt IntKind.i64 x fun (n_2 : Int) => onNil r (some (AV.int IntKind.i64 n, [[AV.bs B, AV.int IntKind.i64 (bif bad || !n_2 == (0 : Int) then at_ else n_1), AV.bool li, AV.bool (bad || !n_2 == (0 : Int))]]))) := by kernel_rfl

theorem p57 (B : List UInt8) (at_ : Int) (li bad : Bool) (hpre : (decide (B.length ≤ 140737488355328)) = true) : runFn (G.env 57 4) G.rts (G.own 57) Tryz.f57 [.ptr 0 0] [(0, [.bs B, .int .i64 at_, .bool li, .bool bad])] = some (.int .i64 (Kerb.get B at_ 2 li).val, [[.bs B, .int .i64 (cond (bad || !((Kerb.get B at_ 2 li).err == 0)) at_ (Kerb.get B at_ 2 li).next), .bool li, .bool (bad || !((Kerb.get B at_ 2 li).err == 0))]]) := by
  rw [r57]
  simp only [onInt_int, onU8_u8, onBool_bool, onStr_str, onBs_bs, onSl_sl, onAgg_agg, onTup_tup, onOwnB_ownB, onOwnL_ownL, onCons_cons, onNil_nil, onNilB_nil, onConsB_cons, chk_true, chk_bind, sel_bind, some_bind, exK_ret, exK_exit, sel_true, sel_false]
  rw [chk_of hpre]

theorem w57 : Walked Tryz.prog G 57 4 sp57 := by
  refine ⟨Tryz.f57, Tryz.func57, by decide +kernel, rfl, fun xs bl r h => ?_⟩
  unfold sp57 at h
  split at h
  · obtain ⟨h1, h2⟩ := chk_inv h; cases h2; exact p57 _ _ _ _ h1
  · cases h

/- (*kerbsuite/kamessage.reader).number -/
theorem r58 (B : List UInt8) (at_ : Int) (bad : Bool) : runFn (G.env 58 4) G.rts (G.own 58) Tryz.f58 [.ptr 0 0] [(0, [.bs B, .int .i64 at_, .bool bad])] = Option.bind (chk (decide (List.length B ≤ (4611686018427387904 : Nat))) (some (AV.tup [AV.int IntKind.i64 (Kerb.Got.val (Kerb.get B at_ (4 : Int) false)), AV.int IntKind.i64 (Kerb.Got.next (Kerb.get B at_ (4 : Int) false)), AV.int IntKind.i64 (Kerb.Got.err (Kerb.get B at_ (4 : Int) false))], []))) fun (r : AV × Blocks) => onNilB (Prod.snd r) (AV.onTup (Prod.fst r) fun (vs : List AV) => onCons vs fun (x : AV) (r : List AV) => AV.onInt IntKind.i64 x fun (n : Int) => onCons r fun (x : AV) (r : List AV) => AV.onInt IntKind.i64 x fun (n_1 : Int) => onCons r fun (x : AV) (r : List AV) => AV.onInt IntKind.i64 x fun (n_2 : Int) => onNil r (sel (!!(bad || !n_2 == (0 : Int))) (some (AV.int IntKind.i64 (0 : Int), [[AV.bs B, AV.int IntKind.i64 (bif bad || !n_2 == (0 : Int) then at_ else n_1), AV.bool (bad || !n_2 == (0 : Int))]])) (some (AV.int IntKind.i64 n, [[AV.bs B, AV.int IntKind.i64 (bif bad || !n_2 == (0 : Int) then at_ else n_1), AV.bool (bad || !n_2 == (0 : Int))]])))) := by kernel_rfl

theorem p58 (B : List UInt8) (at_ : Int) (bad : Bool) (hpre : (decide (B.length ≤ 140737488355328)) = true) : runFn (G.env 58 4) G.rts (G.own 58) Tryz.f58 [.ptr 0 0] [(0, [.bs B, .int .i64 at_, .bool bad])] = some (.int .i64 (Kerb.pGet B 4 at_ bad).val, [[.bs B, .int .i64 (Kerb.pGet B 4 at_ bad).pos, .bool (Kerb.pGet B 4 at_ bad).bad]]) := by
  rw [r58]
  have hb := of_decide_eq_true hpre
  simp only [onInt_int, onU8_u8, onBool_bool, onStr_str, onBs_bs, onSl_sl, onAgg_agg, onTup_tup, onOwnB_ownB, onOwnL_ownL, onCons_cons, onNil_nil, onNilB_nil, onConsB_cons, chk_true, chk_bind, sel_bind, some_bind, exK_ret, exK_exit, sel_true, sel_false]
  rw [chk_of (by simp; omega)]
  unfold Kerb.pGet
  cases bad
  · simp only [Bool.false_or]
    generalize hq : (!(_ == (0 : Int))) = q
    cases q <;> rfl
  · rfl

theorem w58 : Walked Tryz.prog G 58 4 sp58 := by
  refine ⟨Tryz.f58, Tryz.func58, by decide +kernel, rfl, fun xs bl r h => ?_⟩
  unfold sp58 at h
  split at h
  · obtain ⟨h1, h2⟩ := chk_inv h; cases h2; exact p58 _ _ _ h1
  · cases h

/- (*kerbsuite/kerbsuiteref5.Reader).Number -/
theorem r62 (B : List UInt8) (at_ : Int) (li bad : Bool) : runFn (G.env 62 4) G.rts (G.own 62) Tryz.f62 [.ptr 0 0] [(0, [.bs B, .int .i64 at_, .bool li, .bool bad])] = Option.bind (chk (decide (List.length B ≤ (140737488355328 : Nat))) (some (AV.tup [AV.int IntKind.i64 (Kerb.Got.val (Kerb.get B at_ (4 : Int) li)), AV.int IntKind.i64 (Kerb.Got.next (Kerb.get B at_ (4 : Int) li)), AV.int IntKind.i64 (Kerb.Got.err (Kerb.get B at_ (4 : Int) li))], []))) fun (r : AV × Blocks) => onNilB (Prod.snd r) (AV.onTup (Prod.fst r) fun (vs : List AV) => onCons vs fun (x : AV) (r : List AV) => AV.onInt IntKind.i64 x fun (n : Int) => onCons r fun (x : AV) (r : List AV) => AV.onInt IntKind.i64 x fun (n_1 : Int) => onCons r fun (x : AV) (r : List AV) => AV.onInt IntKind.i64 x fun (n_2 : Int) => onNil r (some (AV.int IntKind.i64 n, [[AV.bs B, AV.int IntKind.i64 (bif bad || !n_2 == (0 : Int) then at_ else n_1), AV.bool li, AV.bool (bad || !n_2 == (0 : Int))]]))) := by kernel_rfl

theorem p62 (B : List UInt8) (at_ : Int) (li bad : Bool) (hpre : (decide (B.length ≤ 140737488355328)) = true) : runFn (G.env 62 4) G.rts (G.own 62) Tryz.f62 [.ptr 0 0] [(0, [.bs B, .int .i64 at_, .bool li, .bool bad])] = some (.int .i64 (Kerb.get B at_ 4 li).val, [[.bs B, .int .i64 (cond (bad || !((Kerb.get B at_ 4 li).err == 0)) at_ (Kerb.get B at_ 4 li).next), .bool li, .bool (bad || !((Kerb.get B at_ 4 li).err == 0))]]) := by
  rw [r62]
  simp only [onInt_int, onU8_u8, onBool_bool, onStr_str, onBs_bs, onSl_sl, onAgg_agg, onTup_tup, onOwnB_ownB, onOwnL_ownL, onCons_cons, onNil_nil, onNilB_nil, onConsB_cons, chk_true, chk_bind, sel_bind, some_bind, exK_ret, exK_exit, sel_true, sel_false]
  rw [chk_of hpre]

theorem w62 : Walked Tryz.prog G 62 4 sp62 := by
  refine ⟨Tryz.f62, Tryz.func62, by decide +kernel, rfl, fun xs bl r h => ?_⟩
  unfold sp62 at h
  split at h
  · obtain ⟨h1, h2⟩ := chk_inv h; cases h2; exact p62 _ _ _ _ h1
  · cases h

/- kerbsuite/field.PutNumber -/
theorem r67 (b : List UInt8) (n : Int) (little : Bool) : runFn (G.env 67 4) G.rts (G.own 67) Tryz.f67 [.bs b, .int .i64 n, .bool little] [] = Option.bind (chk (decide (List.length b ≤ (70368744177664 : Nat))) (some (AV.ownB (b ++ Kerb.putN n (Int.toNat (4 : Int)) little), []))) fun (r : AV × Blocks) => onNilB (Prod.snd r) (AV.onOwnB (Prod.fst r) fun (l : List UInt8) => some (AV.ownB l, [])) := by kernel_rfl

theorem p67 (b : List UInt8) (n : Int) (little : Bool) (hpre : (decide (b.length ≤ 70368744177664)) = true) : runFn (G.env 67 4) G.rts (G.own 67) Tryz.f67 [.bs b, .int .i64 n, .bool little] [] = some (.ownB (b ++ Kerb.putN n 4 little), []) := by
  rw [r67]
  simp only [decide_eq_true_eq] at hpre
  simp only [onInt_int, onU8_u8, onBool_bool, onStr_str, onBs_bs, onSl_sl, onAgg_agg, onTup_tup, onOwnB_ownB, onOwnL_ownL, onCons_cons, onNil_nil, onNilB_nil, onConsB_cons, chk_true, chk_bind, sel_bind, some_bind, exK_ret, exK_exit, sel_true, sel_false]
  rw [chk_of (by simp; omega)]
  rfl

theorem w67 : Walked Tryz.prog G 67 4 sp67 := by
  refine ⟨Tryz.f67, Tryz.func67, by decide +kernel, rfl, fun xs bl r h => ?_⟩
  unfold sp67 at h
  split at h
  · obtain ⟨h1, h2⟩ := chk_inv h; cases h2; exact p67 _ _ _ h1
  · cases h

/- kerbsuite/field.PutOctet -/
theorem r69 (b : List UInt8) (n : Int) : runFn (G.env 69 4) G.rts (G.own 69) Tryz.f69 [.bs b, .int .i64 n] [] = Option.bind (chk (decide (List.length b ≤ (70368744177664 : Nat))) (some (AV.ownB (b ++ Kerb.putN n (Int.toNat (1 : Int)) false), []))) fun (r : AV × Blocks) => onNilB (Prod.snd r) (AV.onOwnB (Prod.fst r) fun (l : List UInt8) => some (AV.ownB l, [])) := by kernel_rfl

theorem p69 (b : List UInt8) (n : Int) (hpre : (decide (b.length ≤ 70368744177664)) = true) : runFn (G.env 69 4) G.rts (G.own 69) Tryz.f69 [.bs b, .int .i64 n] [] = some (.ownB (b ++ Kerb.putN n 1 false), []) := by
  rw [r69]
  simp only [decide_eq_true_eq] at hpre
  simp only [onInt_int, onU8_u8, onBool_bool, onStr_str, onBs_bs, onSl_sl, onAgg_agg, onTup_tup, onOwnB_ownB, onOwnL_ownL, onCons_cons, onNil_nil, onNilB_nil, onConsB_cons, chk_true, chk_bind, sel_bind, some_bind, exK_ret, exK_exit, sel_true, sel_false]
  rw [chk_of (by simp; omega)]
  rfl

theorem w69 : Walked Tryz.prog G 69 4 sp69 := by
  refine ⟨Tryz.f69, Tryz.func69, by decide +kernel, rfl, fun xs bl r h => ?_⟩
  unfold sp69 at h
  split at h
  · obtain ⟨h1, h2⟩ := chk_inv h; cases h2; exact p69 _ _ h1
  · cases h

/- kerbsuite/field.PutPrincipal -/
theorem r70 (b x y z : List UInt8) : runFn (G.env 70 4) G.rts (G.own 70) Tryz.f70 [.bs b, .agg [.str x, .str y, .str z]] [] = Option.bind (chk (decide (List.length b + List.length x ≤ (70368744177664 : Nat))) (some (AV.bs (Kerb.putText b x), []))) fun (r : AV × Blocks) => onNilB (Prod.snd r) (AV.onBs (Prod.fst r) fun (b : List UInt8) => Option.bind (chk (decide (List.length b + List.length y ≤ (70368744177664 : Nat))) (some (AV.bs (Kerb.putText b y), []))) fun (r : AV × Blocks) => onNilB (Prod.snd r) (AV.onBs (Prod.fst r) fun (b : List UInt8) => Option.bind (chk (decide (List.length b + List.length z ≤ (70368744177664 : Nat))) (some (AV.bs (Kerb.putText b z), []))) fun (r : AV × Blocks) => onNilB (Prod.snd r) (AV.onBs (Prod.fst r) fun (b : List UInt8) => some (AV.bs b, [])))) := by kernel_rfl

theorem p70 (b x y z : List UInt8) (hpre : (decide (b.length + x.length + y.length + z.length ≤ 70368744170000)) = true) : runFn (G.env 70 4) G.rts (G.own 70) Tryz.f70 [.bs b, .agg [.str x, .str y, .str z]] [] = some (.bs (Kerb.putPrin b ⟨x, y, z⟩), []) := by
  rw [r70]
  simp only [decide_eq_true_eq] at hpre
  simp only [onInt_int, onU8_u8, onBool_bool, onStr_str, onBs_bs, onSl_sl, onAgg_agg, onTup_tup, onOwnB_ownB, onOwnL_ownL, onCons_cons, onNil_nil, onNilB_nil, onConsB_cons, chk_true, chk_bind, sel_bind, some_bind, exK_ret, exK_exit, sel_true, sel_false]
  rw [chk_of (by simp; omega), chk_of (by simp [Kerb.putText]; omega), chk_of (by simp [Kerb.putText]; omega)]
  rfl

theorem w70 : Walked Tryz.prog G 70 4 sp70 := by
  refine ⟨Tryz.f70, Tryz.func70, by decide +kernel, rfl, fun xs bl r h => ?_⟩
  unfold sp70 at h
  split at h
  · obtain ⟨h1, h2⟩ := chk_inv h; cases h2; exact p70 _ _ _ _ h1
  · cases h

/- kerbsuite/key.Read -/
theorem r96 (b : List UInt8) : runFn (G.env 96 4) G.rts (G.own 96) Tryz.f96 [.bs b] [] = sel (!(↑(List.length b) : Int) == (8 : Int)) (some (AV.tup [AV.int IntKind.u64 (0 : Int), AV.bool false], [])) (Option.bind (loopM (fun (st : List AV) => onCons st fun (x : AV) (r : List AV) => AV.onInt IntKind.u64 x fun (n : Int) => onCons r fun (x : AV) (r : List AV) => AV.onBs x fun (b : List UInt8) => onCons r fun (x : AV) (r : List AV) => AV.onInt IntKind.i64 x fun (n_1 : Int) => onCons r fun (x : AV) (r : List AV) => AV.onInt IntKind.i64 x fun (n_2 : Int) => onNil r (sel (decide (n_2 < n_1)) (chk (decide ((0 : Int) ≤ n_2) && decide (n_2 < (↑(List.length b) : Int))) (some (Sum.inl [AV.int IntKind.u64 (IntKind.wrap IntKind.u64 (↑(BitVec.toNat (BitVec.ofInt (IntKind.bits IntKind.u64) (IntKind.wrap IntKind.u64 (n * (2 : Int) ^ min (Int.toNat (8 : Int)) (IntKind.bits IntKind.u64))) ||| BitVec.ofInt (IntKind.bits IntKind.u64) (IntKind.wrap IntKind.u64 (↑(UInt8.toNat (List.getD b (Int.toNat n_2) (0 : UInt8))) : Int)))) : Int)), AV.bs b, AV.int IntKind.i64 n_1, AV.int IntKind.i64 (IntKind.wrap IntKind.i64 (n_2 + (1 : Int)))]))) (some (Sum.inr (Ex.exit (0 : Nat), [AV.int IntKind.u64 n, AV.bs b, AV.int IntKind.i64 n_1, AV.int IntKind.i64 n_2]))))) [AV.int IntKind.u64 (0 : Int), AV.bs b, AV.int IntKind.i64 (↑(List.length b) : Int), AV.int IntKind.i64 (0 : Int)]) fun (r : Ex × List AV) => onCons (Prod.snd r) fun (x : AV) (r_1 : List AV) => AV.onInt IntKind.u64 x fun (n : Int) => onCons r_1 fun (x : AV) (r_2 : List AV) => AV.onBs x fun (b : List UInt8) => onCons r_2 fun (x : AV) (r_3 : List AV) => AV.onInt IntKind.i64 x fun (n_1 : Int) => onCons r_3 fun (x : AV) (r_4 : List AV) => AV.onInt IntKind.i64 x fun (n_2 : Int) => onNil r_4 (exK r.1 none fun (j : Nat) => sel (Nat.beq j (0 : Nat)) (Option.bind (chk (decide ((0 : Int) ≤ n) && decide (n < (18446744073709551616 : Int))) (some (AV.bool (Kerb.keyValid n), []))) fun (r : AV × Blocks) => onNilB (Prod.snd r) (AV.onBool (Prod.fst r) fun (b : Bool) => sel (!b) (some (AV.tup [AV.int IntKind.u64 (0 : Int), AV.bool false], [])) (some (AV.tup [AV.int IntKind.u64 n, AV.bool true], [])))) none)) := by kernel_rfl

theorem p96 (b : List UInt8) (hpre : (decide (b.length ≤ 4611686018427387904)) = true) : runFn (G.env 96 4) G.rts (G.own 96) Tryz.f96 [.bs b] [] = some (.tup [.int .u64 (Kerb.keyRead b).1, .bool (Kerb.keyRead b).2], []) := by
  rw [r96]
  have hb := of_decide_eq_true hpre
  unfold Kerb.keyRead
  by_cases h8 : b.length = 8
  case neg =>
    rw [sel_pos (by simp; omega), if_neg (by omega)]
  rw [sel_neg (by simp [h8])]
  refine loop_rounds (fun i : Nat => [AV.int IntKind.u64 (Kerb.valB (b.take i)), AV.bs b, AV.int IntKind.i64 (b.length : Int), AV.int IntKind.i64 (i : Int)]) (fun i => i ≤ 8) (fun i => 8 - i)
    (fun r => r = (Ex.exit 0, [AV.int IntKind.u64 (Kerb.valB b), AV.bs b, AV.int IntKind.i64 (b.length : Int), AV.int IntKind.i64 8])) 0 (by omega) rfl ?_ ?_
  · intro i hi
    simp only [onInt_int, onU8_u8, onBool_bool, onStr_str, onBs_bs, onSl_sl, onAgg_agg, onTup_tup, onOwnB_ownB, onOwnL_ownL, onCons_cons, onNil_nil, onNilB_nil, onConsB_cons, chk_true, chk_bind, sel_bind, some_bind, exK_ret, exK_exit, sel_true, sel_false]
    by_cases hlt : i < 8
    · have hv := Kerb.valB_take (l := b) (i := i) (by omega)
      have hbd := Kerb.valB_bd7 (l := b.take i) (by simp; omega)
      rw [sel_pos (by simp; omega), chk_of (by simp; omega), Int.toNat_natCast, Kerb.shl8_oru _ hbd.1 hbd.2, wrap_i64 (by omega) (by omega), ← hv]
      exact ⟨_, rfl, i + 1, rfl, by omega, by dsimp only; omega⟩
    · rw [sel_neg (by simp; omega)]
      refine ⟨_, rfl, ?_⟩
      show _ = _
      rw [List.take_of_length_le (by omega), show i = 8 from by omega]
      rfl
  rintro r rfl
  have hbd := Kerb.valB_bd8 (l := b) (by omega)
  simp only [onInt_int, onU8_u8, onBool_bool, onStr_str, onBs_bs, onSl_sl, onAgg_agg, onTup_tup, onOwnB_ownB, onOwnL_ownL, onCons_cons, onNil_nil, onNilB_nil, onConsB_cons, chk_true, chk_bind, sel_bind, some_bind, exK_ret, exK_exit, sel_true, sel_false]
  rw [sel_pos (Nat.beq_refl _), chk_of (by simp; omega)]
  cases hv : Kerb.keyValid (Kerb.valB b)
  · rw [if_neg (by simp)]
    rfl
  · rw [if_pos ⟨h8, rfl⟩]
    rfl

theorem w96 : Walked Tryz.prog G 96 4 sp96 := by
  refine ⟨Tryz.f96, Tryz.func96, by decide +kernel, rfl, fun xs bl r h => ?_⟩
  unfold sp96 at h
  split at h
  · obtain ⟨h1, h2⟩ := chk_inv h; cases h2; exact p96 _ h1
  · cases h

/- kerbsuite/kamessage.checkSecret -/
theorem r97 (lb : List UInt8) (t st en k : Int) : runFn (G.env 97 4) G.rts (G.own 97) Tryz.f97 [.agg [.str lb, .int .i64 t, .int .i64 st, .int .i64 en, .int .u64 k]] [] = sel (!Kerb.timed lb) (sel (!lb == [(67 : UInt8), (80 : UInt8), (87 : UInt8), (108 : UInt8)]) (some (AV.int IntKind.i64 (80 : Int), [])) (sel (!Kerb.within t (4294967295 : Int)) (some (AV.int IntKind.i64 (104 : Int), [])) (sel (Kerb.timed lb) (sel (!Kerb.within st (4294967295 : Int)) (some (AV.int IntKind.i64 (104 : Int), [])) (sel (!Kerb.within en (4294967295 : Int)) (some (AV.int IntKind.i64 (104 : Int), [])) (sel (!k == (0 : Int)) (some (AV.int IntKind.i64 (108 : Int), [])) (some (AV.int IntKind.i64 (0 : Int), []))))) (Option.bind (chk (decide ((0 : Int) ≤ k) && decide (k < (18446744073709551616 : Int))) (some (AV.bool (Kerb.keyValid k), []))) fun (r : AV × Blocks) => onNilB (Prod.snd r) (AV.onBool (Prod.fst r) fun (b : Bool) => sel (!b) (some (AV.int IntKind.i64 (10 : Int), [])) (sel (!st == (0 : Int)) (some (AV.int IntKind.i64 (108 : Int), [])) (sel (!en == (0 : Int)) (some (AV.int IntKind.i64 (108 : Int), [])) (some (AV.int IntKind.i64 (0 : Int), []))))))))) (sel (!Kerb.within t (4294967295 : Int)) (some (AV.int IntKind.i64 (104 : Int), [])) (sel (Kerb.timed lb) (sel (!Kerb.within st (4294967295 : Int)) (some (AV.int IntKind.i64 (104 : Int), [])) (sel (!Kerb.within en (4294967295 : Int)) (some (AV.int IntKind.i64 (104 : Int), [])) (sel (!k == (0 : Int)) (some (AV.int IntKind.i64 (108 : Int), [])) (some (AV.int IntKind.i64 (0 : Int), []))))) (Option.bind (chk (decide ((0 : Int) ≤ k) && decide (k < (18446744073709551616 : Int))) (some (AV.bool (Kerb.keyValid k), []))) fun (r : AV × Blocks) => onNilB (Prod.snd r) (AV.onBool (Prod.fst r) fun (b : Bool) => sel (!b) (some (AV.int IntKind.i64 (10 : Int), [])) (sel (!st == (0 : Int)) (some (AV.int IntKind.i64 (108 : Int), [])) (sel (!en == (0 : Int)) (some (AV.int IntKind.i64 (108 : Int), [])) (some (AV.int IntKind.i64 (0 : Int), [])))))))) := by kernel_rfl

theorem p97 (lb : List UInt8) (t st en k : Int) (hpre : (decide (0 ≤ k) && decide (k < 18446744073709551616)) = true) : runFn (G.env 97 4) G.rts (G.own 97) Tryz.f97 [.agg [.str lb, .int .i64 t, .int .i64 st, .int .i64 en, .int .u64 k]] [] = some (.int .i64 (Kerb.encodeKaSecret ⟨lb, t, st, en, k⟩).err, []) := by
  rw [r97]
  have eGet : ([103, 84, 71, 83] : List UInt8) = Kerb.lGet := rfl
  have eTick : ([103, 84, 75, 84] : List UInt8) = Kerb.lTicket := rfl
  have eChg : ([67, 80, 87, 108] : List UInt8) = Kerb.lChange := rfl
  have eDone : ([67, 80, 87, 100] : List UInt8) = Kerb.lDone := rfl
  have eGot : ([116, 103, 115, 84] : List UInt8) = Kerb.lGot := rfl
  have eGiven : ([116, 107, 116, 71] : List UInt8) = Kerb.lGiven := rfl
  
  simp only [onInt_int, onU8_u8, onBool_bool, onStr_str, onBs_bs, onSl_sl, onAgg_agg, onTup_tup, onOwnB_ownB, onOwnL_ownL, onCons_cons, onNil_nil, onNilB_nil, onConsB_cons, chk_true, chk_bind, sel_bind, some_bind, exK_ret, exK_exit, sel_true, sel_false, eChg, hpre]
  unfold Kerb.encodeKaSecret
  simp only
  cases ht : Kerb.timed lb
  · rw [Bool.not_false, sel_true]
    cases hc : (lb == Kerb.lChange)
    · rfl
    rw [Bool.not_true, sel_false, if_neg (by simp)]
    cases h1 : Kerb.within t 4294967295
    · rfl
    rw [Bool.not_true, sel_false, if_neg (by simp), sel_false, if_neg (by simp)]
    cases h2 : Kerb.keyValid k
    · rfl
    rw [Bool.not_true, sel_false, if_neg (by simp)]
    by_cases h3 : st = 0
    case neg => rw [sel_pos (by simpa using h3), if_pos (.inl h3)]
    rw [sel_neg (by simp [h3])]
    by_cases h4 : en = 0
    case neg => rw [sel_pos (by simpa using h4), if_pos (.inr h4)]
    rw [sel_neg (by simp [h4]), if_neg (by simp [h3, h4])]
  · rw [Bool.not_true, sel_false, if_neg (by simp)]
    cases h1 : Kerb.within t 4294967295
    · rfl
    rw [Bool.not_true, sel_false, if_neg (by simp), sel_true, if_pos rfl]
    cases h2 : Kerb.within st 4294967295
    · rfl
    rw [Bool.not_true, sel_false]
    cases h3 : Kerb.within en 4294967295
    · rfl
    rw [Bool.not_true, sel_false, if_neg (by simp)]
    by_cases h4 : k = 0
    · rw [sel_neg (by simp [h4]), if_neg (by simp [h4])]
    · rw [sel_pos (by simpa using h4), if_pos h4]

theorem w97 : Walked Tryz.prog G 97 4 sp97 := by
  refine ⟨Tryz.f97, Tryz.func97, by decide +kernel, rfl, fun xs bl r h => ?_⟩
  unfold sp97 at h
  split at h
  · obtain ⟨h1, h2⟩ := chk_inv h; cases h2; exact p97 _ _ _ _ _ h1
  · cases h

/- kerbsuite/field.PutShort -/
theorem r109 (b : List UInt8) (n : Int) (little : Bool) : runFn (G.env 109 4) G.rts (G.own 109) Tryz.f109 [.bs b, .int .i64 n, .bool little] [] = Option.bind (chk (decide (List.length b ≤ (70368744177664 : Nat))) (some (AV.ownB (b ++ Kerb.putN n (Int.toNat (2 : Int)) little), []))) fun (r : AV × Blocks) => onNilB (Prod.snd r) (AV.onOwnB (Prod.fst r) fun (l : List UInt8) => some (AV.ownB l, [])) := by kernel_rfl

theorem p109 (b : List UInt8) (n : Int) (little : Bool) (hpre : (decide (b.length ≤ 70368744177664)) = true) : runFn (G.env 109 4) G.rts (G.own 109) Tryz.f109 [.bs b, .int .i64 n, .bool little] [] = some (.ownB (b ++ Kerb.putN n 2 little), []) := by
  rw [r109]
  simp only [decide_eq_true_eq] at hpre
  simp only [onInt_int, onU8_u8, onBool_bool, onStr_str, onBs_bs, onSl_sl, onAgg_agg, onTup_tup, onOwnB_ownB, onOwnL_ownL, onCons_cons, onNil_nil, onNilB_nil, onConsB_cons, chk_true, chk_bind, sel_bind, some_bind, exK_ret, exK_exit, sel_true, sel_false]
  rw [chk_of (by simp; omega)]
  rfl

theorem w109 : Walked Tryz.prog G 109 4 sp109 := by
  refine ⟨Tryz.f109, Tryz.func109, by decide +kernel, rfl, fun xs bl r h => ?_⟩
  unfold sp109 at h
  split at h
  · obtain ⟨h1, h2⟩ := chk_inv h; cases h2; exact p109 _ _ _ h1
  · cases h

/- kerbsuite/principal.printable -/
theorem r118 (s bad : List UInt8) : runFn (G.env 118 4) G.rts (G.own 118) Tryz.f118 [.str s, .str bad] [] = Option.bind (loopM (fun (st : List AV) => onCons st fun (x : AV) (r : List AV) => AV.onStr x fun (b : List UInt8) => onCons r fun (x : AV) (r : List AV) => AV.onStr x fun (b_1 : List UInt8) => onCons r fun (x : AV) (r : List AV) => AV.onBool x fun (b_2 : Bool) => onCons r fun (x : AV) (r : List AV) => AV.onInt IntKind.i64 x fun (n : Int) => onCons r fun (x : AV) (r : List AV) => AV.onInt IntKind.i64 x fun (n_1 : Int) => onNil r (sel (decide (n_1 < n)) (chk (decide ((0 : Int) ≤ n_1) && decide (n_1 < (↑(List.length b) : Int))) (sel (decide ((↑(UInt8.toNat (List.getD b (Int.toNat n_1) (0 : UInt8))) : Int) < (↑(UInt8.toNat (33 : UInt8)) : Int))) (some (Sum.inr (Ex.ret, [AV.str b, AV.str b_1, AV.bool false, AV.int IntKind.i64 n, AV.int IntKind.i64 n_1]))) (chk (decide ((0 : Int) ≤ n_1) && decide (n_1 < (↑(List.length b) : Int))) (sel (decide ((↑(UInt8.toNat (List.getD b (Int.toNat n_1) (0 : UInt8))) : Int) > (↑(UInt8.toNat (126 : UInt8)) : Int))) (some (Sum.inr (Ex.ret, [AV.str b, AV.str b_1, AV.bool false, AV.int IntKind.i64 n, AV.int IntKind.i64 n_1]))) (chk (decide ((0 : Int) ≤ n_1) && decide (n_1 < (↑(List.length b) : Int))) (sel (decide (Kerb.indexOf (List.getD b (Int.toNat n_1) (0 : UInt8)) b_1 ≥ (0 : Int))) (some (Sum.inr (Ex.ret, [AV.str b, AV.str b_1, AV.bool false, AV.int IntKind.i64 n, AV.int IntKind.i64 n_1]))) (some (Sum.inl [AV.str b, AV.str b_1, AV.bool b_2, AV.int IntKind.i64 n, AV.int IntKind.i64 (IntKind.wrap IntKind.i64 (n_1 + (1 : Int)))])))))))) (some (Sum.inr (Ex.exit (0 : Nat), [AV.str b, AV.str b_1, AV.bool b_2, AV.int IntKind.i64 n, AV.int IntKind.i64 n_1]))))) [AV.str s, AV.str bad, AV.bool false, AV.int IntKind.i64 (↑(List.length s) : Int), AV.int IntKind.i64 (0 : Int)]) fun (r : Ex × List AV) => onCons (Prod.snd r) fun (x : AV) (r_1 : List AV) => AV.onStr x fun (b : List UInt8) => onCons r_1 fun (x : AV) (r_2 : List AV) => AV.onStr x fun (b : List UInt8) => onCons r_2 fun (x : AV) (r_3 : List AV) => AV.onBool x fun (b : Bool) => onCons r_3 fun (x : AV) (r_4 : List AV) => AV.onInt IntKind.i64 x fun (n : Int) => onCons r_4 fun (x : AV) (r_5 : List AV) => AV.onInt IntKind.i64 x fun (n : Int) => onNil r_5 (exK r.1 (some (AV.bool b, [])) fun (j : Nat) => sel (Nat.beq j (0 : Nat)) (some (AV.bool true, [])) none) := by kernel_rfl

theorem p118 (s bad : List UInt8) (hpre : (decide (s.length ≤ 4611686018427387904)) = true) : runFn (G.env 118 4) G.rts (G.own 118) Tryz.f118 [.str s, .str bad] [] = some (.bool (Kerb.printable s bad), []) := by
  rw [r118]
  simp only [decide_eq_true_eq] at hpre
  refine loop_rounds (fun i : Nat => [AV.str s, AV.str bad, AV.bool false, AV.int IntKind.i64 (s.length : Int), AV.int IntKind.i64 (i : Int)]) (fun i => i ≤ s.length ∧ Kerb.printable s bad = Kerb.printable (s.drop i) bad) (fun i => s.length - i)
    (fun r => ∃ i : Nat, r.2 = [AV.str s, AV.str bad, AV.bool false, AV.int IntKind.i64 (s.length : Int), AV.int IntKind.i64 (i : Int)] ∧ ((r.1 = .ret ∧ Kerb.printable s bad = false) ∨ (r.1 = .exit 0 ∧ Kerb.printable s bad = true))) 0 ⟨Nat.zero_le _, rfl⟩ rfl ?_ ?_
  · rintro i ⟨hi, hp⟩
    simp only [onInt_int, onU8_u8, onBool_bool, onStr_str, onBs_bs, onSl_sl, onAgg_agg, onTup_tup, onOwnB_ownB, onOwnL_ownL, onCons_cons, onNil_nil, onNilB_nil, onConsB_cons, chk_true, chk_bind, sel_bind, some_bind, exK_ret, exK_exit, sel_true, sel_false]
    by_cases hlt : i < s.length
    · have hc : (decide ((0 : Int) ≤ (i : Int)) && decide ((i : Int) < (s.length : Int))) = true := by simp; omega
      have hd := Kerb.drop_all_cons hlt
      rw [sel_pos (by simp; omega), chk_of hc, Int.toNat_natCast]
      have hpr : Kerb.printable (s.drop i) bad = (Kerb.okB bad (s.getD i 0) && Kerb.printable (s.drop (i + 1)) bad) := by rw [hd]; rfl
      generalize s.getD i 0 = c at *
      by_cases h1 : c.toNat < 33
      · rw [sel_pos (by simp; omega)]
        exact ⟨_, rfl, i, rfl, .inl ⟨rfl, by rw [hp, hpr]; simp [Kerb.okB, h1]⟩⟩
      rw [sel_neg (by simp; omega), chk_of hc]
      by_cases h2 : 126 < c.toNat
      · rw [sel_pos (by simp; omega)]
        exact ⟨_, rfl, i, rfl, .inl ⟨rfl, by rw [hp, hpr]; simp [Kerb.okB, h2]⟩⟩
      rw [sel_neg (by simp; omega), chk_of hc]
      have h4 := Kerb.indexOf_nonneg c bad
      by_cases h3 : c ∈ bad
      · rw [sel_pos (by simpa using h4.2 h3)]
        exact ⟨_, rfl, i, rfl, .inl ⟨rfl, by rw [hp, hpr]; simp [Kerb.okB, h3]⟩⟩
      rw [sel_neg (by have := mt h4.1 h3; simp; omega), wrap_i64 (by omega) (by omega)]
      exact ⟨_, rfl, i + 1, rfl, ⟨by omega, by rw [hp, hpr]; simp [Kerb.okB, h1, h2, h3]⟩, by dsimp only; omega⟩
    · rw [sel_neg (by simp; omega)]
      exact ⟨_, rfl, i, rfl, .inr ⟨rfl, by rw [hp, List.drop_eq_nil_of_le (by omega)]; rfl⟩⟩
  · rintro ⟨e, l⟩ ⟨i, rfl, ⟨rfl, hp⟩ | ⟨rfl, hp⟩⟩
    · simp only [onInt_int, onU8_u8, onBool_bool, onStr_str, onBs_bs, onSl_sl, onAgg_agg, onTup_tup, onOwnB_ownB, onOwnL_ownL, onCons_cons, onNil_nil, onNilB_nil, onConsB_cons, chk_true, chk_bind, sel_bind, some_bind, exK_ret, exK_exit, sel_true, sel_false, hp]
    · simp only [onInt_int, onU8_u8, onBool_bool, onStr_str, onBs_bs, onSl_sl, onAgg_agg, onTup_tup, onOwnB_ownB, onOwnL_ownL, onCons_cons, onNil_nil, onNilB_nil, onConsB_cons, chk_true, chk_bind, sel_bind, some_bind, exK_ret, exK_exit, sel_true, sel_false, hp]
      rfl

theorem w118 : Walked Tryz.prog G 118 4 sp118 := by
  refine ⟨Tryz.f118, Tryz.func118, by decide +kernel, rfl, fun xs bl r h => ?_⟩
  unfold sp118 at h
  split at h
  · obtain ⟨h1, h2⟩ := chk_inv h; cases h2; exact p118 _ _ h1
  · cases h

/- kerbsuite/kerbsuiteref22.DecodeRequest -/
theorem r14 (b : List UInt8) : runFn (G.env 14 5) G.rts (G.own 14) Tryz.f14 [.bs b] [] = sel (!Prod.snd (Kerb.headIs b [(9 : Int)]) == (0 : Int)) (some (AV.tup [AV.agg [AV.int IntKind.i64 (0 : Int), AV.str [], AV.str [], AV.str [], AV.int IntKind.i64 (0 : Int), AV.str [], AV.bs [], AV.str [], AV.str [], AV.bs []], AV.int IntKind.i64 (Prod.snd (Kerb.headIs b [(9 : Int)]))], [])) (Option.bind (chk (decide (List.length b ≤ (140737488355328 : Nat))) (some (AV.int IntKind.i64 (Kerb.Got.val (Kerb.get b (2 : Int) (1 : Int) false)), [[AV.bs b, AV.int IntKind.i64 (bif false || !Kerb.Got.err (Kerb.get b (2 : Int) (1 : Int) false) == (0 : Int) then (2 : Int) else Kerb.Got.next (Kerb.get b (2 : Int) (1 : Int) false)), AV.bool false, AV.bool !Kerb.Got.err (Kerb.get b (2 : Int) (1 : Int) false) == (0 : Int)]]))) fun (r : AV × Blocks) => onConsB (Prod.snd r) fun (x : List AV) (r_1 : List (List AV)) => onCons x fun (x : AV) (r_2 : List AV) => AV.onBs x fun (b_1 : List UInt8) => onCons r_2 fun (x : AV) (r_3 : List AV) => AV.onInt IntKind.i64 x fun (n : Int) => onCons r_3 fun (x : AV) (r_4 : List AV) => AV.onBool x fun (b_2 : Bool) => onCons r_4 fun (x : AV) (r_5 : List AV) => AV.onBool x fun (b_3 : Bool) => onNil r_5 (onNilB r_1 (AV.onInt IntKind.i64 (Prod.fst r) fun (n_1 : Int) => sel (n_1 == (1 : Int) || n_1 == (3 : Int)) (Option.bind (chk (decide (List.length b_1 ≤ (140737488355328 : Nat))) (some (AV.agg [AV.str (Kerb.Prin.name (Kerb.RdP.p (Kerb.rdPrin b_1 n b_3))), AV.str (Kerb.Prin.inst (Kerb.RdP.p (Kerb.rdPrin b_1 n b_3))), AV.str (Kerb.Prin.realm (Kerb.RdP.p (Kerb.rdPrin b_1 n b_3)))], [[AV.bs b_1, AV.int IntKind.i64 (Kerb.RdP.pos (Kerb.rdPrin b_1 n b_3)), AV.bool b_2, AV.bool (Kerb.RdP.bad (Kerb.rdPrin b_1 n b_3))]]))) fun (r : AV × Blocks) => onConsB (Prod.snd r) fun (x : List AV) (r_6 : List (List AV)) => onCons x fun (x : AV) (r_7 : List AV) => AV.onBs x fun (b_4 : List UInt8) => onCons r_7 fun (x : AV) (r_8 : List AV) => AV.onInt IntKind.i64 x fun (n : Int) => onCons r_8 fun (x : AV) (r_9 : List AV) => AV.onBool x fun (b_5 : Bool) => onCons r_9 fun (x : AV) (r_10 : List AV) => AV.onBool x fun (b_6 : Bool) => onNil r_10 (onNilB r_6 (AV.onAgg (Prod.fst r) fun (cs : List AV) => onCons cs fun (x : AV) (r : List AV) => AV.onStr x fun (b_7 : List UInt8) => onCons r fun (x : AV) (r : List AV) => AV.onStr x fun (b_8 : List UInt8) => onCons r fun (x : AV) (r : List AV) => AV.onStr x fun (b_9 : List UInt8) => onNil r (Option.bind (chk (decide (List.length b_4 ≤ (140737488355328 : Nat))) (some (AV.int IntKind.i64 (Kerb.Got.val (Kerb.get b_4 n (2 : Int) b_5)), [[AV.bs b_4, AV.int IntKind.i64 (bif b_6 || !Kerb.Got.err (Kerb.get b_4 n (2 : Int) b_5) == (0 : Int) then n else Kerb.Got.next (Kerb.get b_4 n (2 : Int) b_5)), AV.bool b_5, AV.bool (b_6 || !Kerb.Got.err (Kerb.get b_4 n (2 : Int) b_5) == (0 : Int))]]))) fun (r : AV × Blocks) => onConsB (Prod.snd r) fun (x : List AV) (r_11 : List (List AV)) => onCons x fun (x : AV) (r_12 : List AV) => AV.onBs x fun (b_10 : List UInt8) => onCons r_12 fun (x : AV) (r_13 : List AV) => AV.onInt IntKind.i64 x fun (n : Int) => onCons r_13 fun (x : AV) (r_14 : List AV) => AV.onBool x fun (b_11 : Bool) => onCons r_14 fun (x : AV) (r_15 : List AV) => AV.onBool x fun (b_12 : Bool) => onNil r_15 (onNilB r_11 (AV.onInt IntKind.i64 (Prod.fst r) fun (n_2 : Int) => Option.bind (chk (decide (List.length b_10 ≤ (140737488355328 : Nat))) (some (AV.bs (Kerb.GotB.val (Kerb.bytes b_10 n n_2)), [[AV.bs b_10, AV.int IntKind.i64 (bif b_12 || !Kerb.GotB.err (Kerb.bytes b_10 n n_2) == (0 : Int) then n else Kerb.GotB.next (Kerb.bytes b_10 n n_2)), AV.bool b_11, AV.bool (b_12 || !Kerb.GotB.err (Kerb.bytes b_10 n n_2) == (0 : Int))]]))) fun (r : AV × Blocks) => onConsB (Prod.snd r) fun (x : List AV) (r_16 : List (List AV)) => onCons x fun (x : AV) (r_17 : List AV) => AV.onBs x fun (b_13 : List UInt8) => onCons r_17 fun (x : AV) (r_18 : List AV) => AV.onInt IntKind.i64 x fun (n : Int) => onCons r_18 fun (x : AV) (r_19 : List AV) => AV.onBool x fun (b_14 : Bool) => onCons r_19 fun (x : AV) (r_20 : List AV) => AV.onBool x fun (b_15 : Bool) => onNil r_20 (onNilB r_16 (AV.onBs (Prod.fst r) fun (b_16 : List UInt8) => Option.bind (chk (decide (List.length b_7 ≤ (4611686018427387904 : Nat)) && decide (List.length b_8 ≤ (4611686018427387904 : Nat)) && decide (List.length b_9 ≤ (4611686018427387904 : Nat)) && true && true && true) (some (AV.tup [AV.bs (Kerb.Enc.val (Kerb.encodeKaRequest (Kerb.KaRequest.mk n_1 (Kerb.Prin.mk b_7 b_8 b_9) (0 : Int) [] [] [] [] b_16))), AV.int IntKind.i64 (Kerb.Enc.err (Kerb.encodeKaRequest (Kerb.KaRequest.mk n_1 (Kerb.Prin.mk b_7 b_8 b_9) (0 : Int) [] [] [] [] b_16)))], []))) fun (r : AV × Blocks) => onNilB (Prod.snd r) (AV.onTup (Prod.fst r) fun (vs : List AV) => onCons vs fun (x : AV) (r : List AV) => AV.onBs x fun (b_17 : List UInt8) => onCons r fun (x : AV) (r : List AV) => AV.onInt IntKind.i64 x fun (n : Int) => onNil r (sel b_15 (some (AV.tup [AV.agg [AV.int IntKind.i64 (0 : Int), AV.str [], AV.str [], AV.str [], AV.int IntKind.i64 (0 : Int), AV.str [], AV.bs [], AV.str [], AV.str [], AV.bs []], AV.int IntKind.i64 (100 : Int)], [])) (sel (!n == (0 : Int)) (some (AV.tup [AV.agg [AV.int IntKind.i64 (0 : Int), AV.str [], AV.str [], AV.str [], AV.int IntKind.i64 (0 : Int), AV.str [], AV.bs [], AV.str [], AV.str [], AV.bs []], AV.int IntKind.i64 (100 : Int)], [])) (sel (!b_17 == b) (some (AV.tup [AV.agg [AV.int IntKind.i64 (0 : Int), AV.str [], AV.str [], AV.str [], AV.int IntKind.i64 (0 : Int), AV.str [], AV.bs [], AV.str [], AV.str [], AV.bs []], AV.int IntKind.i64 (100 : Int)], [])) (some (AV.tup [AV.agg [AV.int IntKind.i64 n_1, AV.str b_7, AV.str b_8, AV.str b_9, AV.int IntKind.i64 (0 : Int), AV.str [], AV.bs [], AV.str [], AV.str [], AV.bs b_16], AV.int IntKind.i64 (0 : Int)], [])))))))))))))) (Option.bind (chk (decide (List.length b_1 ≤ (140737488355328 : Nat))) (some (AV.int IntKind.i64 (Kerb.Got.val (Kerb.get b_1 n (1 : Int) false)), [[AV.bs b_1, AV.int IntKind.i64 (bif b_3 || !Kerb.Got.err (Kerb.get b_1 n (1 : Int) false) == (0 : Int) then n else Kerb.Got.next (Kerb.get b_1 n (1 : Int) false)), AV.bool b_2, AV.bool (b_3 || !Kerb.Got.err (Kerb.get b_1 n (1 : Int) false) == (0 : Int))]]))) fun (r : AV × Blocks) => onConsB (Prod.snd r) fun (x : List AV) (r_6 : List (List AV)) => onCons x fun (x : AV) (r_7 : List AV) => AV.onBs x fun (b_4 : List UInt8) => onCons r_7 fun (x : AV) (r_8 : List AV) => AV.onInt IntKind.i64 x fun (n : Int) => onCons r_8 fun (x : AV) (r_9 : List AV) => AV.onBool x fun (b_5 : Bool) => onCons r_9 fun (x : AV) (r_10 : List AV) => AV.onBool x fun (b_6 : Bool) => onNil r_10 (onNilB r_6 (AV.onInt IntKind.i64 (Prod.fst r) fun (n_2 : Int) => Option.bind (chk (decide (List.length b_4 ≤ (140737488355328 : Nat))) (some (AV.str (Kerb.GotB.val (Kerb.text b_4 n)), [[AV.bs b_4, AV.int IntKind.i64 (bif b_6 || !Kerb.GotB.err (Kerb.text b_4 n) == (0 : Int) then n else Kerb.GotB.next (Kerb.text b_4 n)), AV.bool b_5, AV.bool (b_6 || !Kerb.GotB.err (Kerb.text b_4 n) == (0 : Int))]]))) fun (r : AV × Blocks) => onConsB (Prod.snd r) fun (x : List AV) (r_11 : List (List AV)) => onCons x fun (x : AV) (r_12 : List AV) => AV.onBs x fun (b_7 : List UInt8) => onCons r_12 fun (x : AV) (r_13 : List AV) => AV.onInt IntKind.i64 x fun (n : Int) => onCons r_13 fun (x : AV) (r_14 : List AV) => AV.onBool x fun (b_8 : Bool) => onCons r_14 fun (x : AV) (r_15 : List AV) => AV.onBool x fun (b_9 : Bool) => onNil r_15 (onNilB r_11 (AV.onStr (Prod.fst r) fun (b_10 : List UInt8) => Option.bind (chk (decide (List.length b_7 ≤ (140737488355328 : Nat))) (some (AV.int IntKind.i64 (Kerb.Got.val (Kerb.get b_7 n (1 : Int) false)), [[AV.bs b_7, AV.int IntKind.i64 (bif b_9 || !Kerb.Got.err (Kerb.get b_7 n (1 : Int) false) == (0 : Int) then n else Kerb.Got.next (Kerb.get b_7 n (1 : Int) false)), AV.bool b_8, AV.bool (b_9 || !Kerb.Got.err (Kerb.get b_7 n (1 : Int) false) == (0 : Int))]]))) fun (r : AV × Blocks) => onConsB (Prod.snd r) fun (x : List AV) (r_16 : List (List AV)) => onCons x fun (x : AV) (r_17 : List AV) => AV.onBs x fun (b_11 : List UInt8) => onCons r_17 fun (x : AV) (r_18 : List AV) => AV.onInt IntKind.i64 x fun (n : Int) => onCons r_18 fun (x : AV) (r_19 : List AV) => AV.onBool x fun (b_12 : Bool) => onCons r_19 fun (x : AV) (r_20 : List AV) => AV.onBool x fun (b_13 : Bool) => onNil r_20 (onNilB r_16 (AV.onInt IntKind.i64 (Prod.fst r) fun (n_3 : Int) => Option.bind (chk (decide (List.length b_11 ≤ (140737488355328 : Nat))) (some (AV.bs (Kerb.GotB.val (Kerb.bytes b_11 n n_3)), [[AV.bs b_11, AV.int IntKind.i64 (bif b_13 || !Kerb.GotB.err (Kerb.bytes b_11 n n_3) == (0 : Int) then n else Kerb.GotB.next (Kerb.bytes b_11 n n_3)), AV.bool b_12, AV.bool (b_13 || !Kerb.GotB.err (Kerb.bytes b_11 n n_3) == (0 : Int))]]))) fun (r : AV × Blocks) => onConsB (Prod.snd r) fun (x : List AV) (r_21 : List (List AV)) => onCons x fun (x : AV) (r_22 : List AV) => AV.onBs x fun (b_14 : List UInt8) => onCons r_22 fun (x : AV) (r_23 : List AV) => AV.onInt IntKind.i64 x fun (n : Int) => onCons r_23 fun (x : AV) (r_24 : List AV) => AV.onBool x fun (b_15 : Bool) => onCons r_24 fun (x : AV) (r_25 : List AV) => AV.onBool x fun (b_16 : Bool) => onNil r_25 (onNilB r_21 (AV.onBs (Prod.fst r) fun (b_17 : List UInt8) => Option.bind (chk (decide (List.length b_14 ≤ (140737488355328 : Nat))) (some (AV.str (Kerb.GotB.val (Kerb.text b_14 n)), [[AV.bs b_14, AV.int IntKind.i64 (bif b_16 || !Kerb.GotB.err (Kerb.text b_14 n) == (0 : Int) then n else Kerb.GotB.next (Kerb.text b_14 n)), AV.bool b_15, AV.bool (b_16 || !Kerb.GotB.err (Kerb.text b_14 n) == (0 : Int))]]))) fun (r : AV × Blocks) => onConsB (Prod.snd r) fun (x : List AV) (r_26 : List (List AV)) => onCons x fun (x : AV) (r_27 : List AV) => AV.onBs x fun (b_18 : List UInt8) => onCons r_27 fun (x : AV) (r_28 : List AV) => AV.onInt IntKind.i64 x fun (n : Int) => onCons r_28 fun (x : AV) (r_29 : List AV) => AV.onBool x fun (b_19 : Bool) => onCons r_29 fun (x : AV) (r_30 : List AV) => AV.onBool x fun (b_20 : Bool) => onNil r_30 (onNilB r_26 (AV.onStr (Prod.fst r) fun (b_21 : List UInt8) => Option.bind (chk (decide (List.length b_18 ≤ (140737488355328 : Nat))) (some (AV.str (Kerb.GotB.val (Kerb.text b_18 n)), [[AV.bs b_18, AV.int IntKind.i64 (bif b_20 || !Kerb.GotB.err (Kerb.text b_18 n) == (0 : Int) then n else Kerb.GotB.next (Kerb.text b_18 n)), AV.bool b_19, AV.bool (b_20 || !Kerb.GotB.err (Kerb.text b_18 n) == (0 : Int))]]))) fun (r : AV × Blocks) => onConsB (Prod.snd r) fun (x : List AV) (r_31 : List (List AV)) => onCons x fun (x : AV) (r_32 : List AV) => AV.onBs x fun (b_22 : List UInt8) => onCons r_32 fun (x : AV) (r_33 : List AV) => AV.onInt IntKind.i64 x fun (n : Int) => onCons r_33 fun (x : AV) (r_34 : List AV) => AV.onBool x fun (b_23 : Bool) => onCons r_34 fun (x : AV) (r_35 : List AV) => AV.onBool x fun (b_24 : Bool) => onNil r_35 (onNilB r_31 (AV.onStr (Prod.fst r) fun (b_25 : List UInt8) => Option.bind (chk (decide (List.length b_22 ≤ (140737488355328 : Nat))) (some (AV.int IntKind.i64 (Kerb.Got.val (Kerb.get b_22 n (2 : Int) b_23)), [[AV.bs b_22, AV.int IntKind.i64 (bif b_24 || !Kerb.Got.err (Kerb.get b_22 n (2 : Int) b_23) == (0 : Int) then n else Kerb.Got.next (Kerb.get b_22 n (2 : Int) b_23)), AV.bool b_23, AV.bool (b_24 || !Kerb.Got.err (Kerb.get b_22 n (2 : Int) b_23) == (0 : Int))]]))) fun (r : AV × Blocks) => onConsB (Prod.snd r) fun (x : List AV) (r_36 : List (List AV)) => onCons x fun (x : AV) (r_37 : List AV) => AV.onBs x fun (b_26 : List UInt8) => onCons r_37 fun (x : AV) (r_38 : List AV) => AV.onInt IntKind.i64 x fun (n : Int) => onCons r_38 fun (x : AV) (r_39 : List AV) => AV.onBool x fun (b_27 : Bool) => onCons r_39 fun (x : AV) (r_40 : List AV) => AV.onBool x fun (b_28 : Bool) => onNil r_40 (onNilB r_36 (AV.onInt IntKind.i64 (Prod.fst r) fun (n_4 : Int) => Option.bind (chk (decide (List.length b_26 ≤ (140737488355328 : Nat))) (some (AV.bs (Kerb.GotB.val (Kerb.bytes b_26 n n_4)), [[AV.bs b_26, AV.int IntKind.i64 (bif b_28 || !Kerb.GotB.err (Kerb.bytes b_26 n n_4) == (0 : Int) then n else Kerb.GotB.next (Kerb.bytes b_26 n n_4)), AV.bool b_27, AV.bool (b_28 || !Kerb.GotB.err (Kerb.bytes b_26 n n_4) == (0 : Int))]]))) fun (r : AV × Blocks) => onConsB (Prod.snd r) fun (x : List AV) (r_41 : List (List AV)) => onCons x fun (x : AV) (r_42 : List AV) => AV.onBs x fun (b_29 : List UInt8) => onCons r_42 fun (x : AV) (r_43 : List AV) => AV.onInt IntKind.i64 x fun (n : Int) => onCons r_43 fun (x : AV) (r_44 : List AV) => AV.onBool x fun (b_30 : Bool) => onCons r_44 fun (x : AV) (r_45 : List AV) => AV.onBool x fun (b_31 : Bool) => onNil r_45 (onNilB r_41 (AV.onBs (Prod.fst r) fun (b_32 : List UInt8) => Option.bind (chk (decide (List.length b_10 ≤ (4611686018427387904 : Nat)) && decide (List.length b_21 ≤ (4611686018427387904 : Nat)) && decide (List.length b_25 ≤ (4611686018427387904 : Nat))) (some (AV.tup [AV.bs (Kerb.Enc.val (Kerb.encodeKaRequest (Kerb.KaRequest.mk n_1 (Kerb.Prin.mk [] [] []) n_2 b_10 b_17 b_21 b_25 b_32))), AV.int IntKind.i64 (Kerb.Enc.err (Kerb.encodeKaRequest (Kerb.KaRequest.mk n_1 (Kerb.Prin.mk [] [] []) n_2 b_10 b_17 b_21 b_25 b_32)))], []))) fun (r : AV × Blocks) => onNilB (Prod.snd r) (AV.onTup (Prod.fst r) fun (vs : List AV) => onCons vs fun (x : AV) (r : List AV) => AV.onBs x fun (b_33 : List UInt8) => onCons r fun (x : AV) (r : List AV) => AV.onInt IntKind.i64 x fun (n : Int) => onNil r (sel b_31 (some (AV.tup [AV.agg [AV.int IntKind.i64 (0 : Int), AV.str [], AV.str [], AV.str [], AV.int IntKind.i64 (0 : Int), AV.str [], AV.bs [], AV.str [], AV.str [], AV.bs []], AV.int IntKind.i64 (100 : Int)], [])) (sel (!n == (0 : Int)) (some (AV.tup [AV.agg [AV.int IntKind.i64 (0 : Int), AV.str [], AV.str [], AV.str [], AV.int IntKind.i64 (0 : Int), AV.str [], AV.bs [], AV.str [], AV.str [], AV.bs []], AV.int IntKind.i64 (100 : Int)], [])) (sel (!b_33 == b) (some (AV.tup [AV.agg [AV.int IntKind.i64 (0 : Int), AV.str [], AV.str [], AV.str [], AV.int IntKind.i64 (0 : Int), AV.str [], AV.bs [], AV.str [], AV.str [], AV.bs []], AV.int IntKind.i64 (100 : Int)], [])) (some (AV.tup [AV.agg [AV.int IntKind.i64 n_1, AV.str [], AV.str [], AV.str [], AV.int IntKind.i64 n_2, AV.str b_10, AV.bs b_17, AV.str b_21, AV.str b_25, AV.bs b_32], AV.int IntKind.i64 (0 : Int)], [])))))))))))))))))))))))))) := by kernel_rfl

theorem p14 (b : List UInt8) (hpre : (decide (b.length ≤ 140737488355328)) = true) : runFn (G.env 14 5) G.rts (G.own 14) Tryz.f14 [.bs b] [] = some (.tup [.agg [.int .i64 ((Kerb.decodeKaRequest b).val).op, .str ((Kerb.decodeKaRequest b).val).user.name, .str ((Kerb.decodeKaRequest b).val).user.inst, .str ((Kerb.decodeKaRequest b).val).user.realm, .int .i64 ((Kerb.decodeKaRequest b).val).kvno, .str ((Kerb.decodeKaRequest b).val).realm, .bs ((Kerb.decodeKaRequest b).val).ticket, .str ((Kerb.decodeKaRequest b).val).service, .str ((Kerb.decodeKaRequest b).val).inst, .bs ((Kerb.decodeKaRequest b).val).box], .int .i64 (Kerb.decodeKaRequest b).err], []) := by
  rw [r14]
  have hb := of_decide_eq_true hpre
  simp only [onInt_int, onU8_u8, onBool_bool, onStr_str, onBs_bs, onSl_sl, onAgg_agg, onTup_tup, onOwnB_ownB, onOwnL_ownL, onCons_cons, onNil_nil, onNilB_nil, onConsB_cons, chk_true, chk_bind, sel_bind, some_bind, exK_ret, exK_exit, sel_true, sel_false, hpre]
  by_cases h : (Kerb.headIs b [9]).2 = 0
  case neg =>
    rw [sel_pos (by simpa using h)]
    unfold Kerb.decodeKaRequest
    rw [if_pos h]
    rfl
  have hd : Kerb.decodeKaRequest b = Kerb.decBy Kerb.noKaReq Kerb.encodeKaRequest Kerb.rdKaReq b := by unfold Kerb.decodeKaRequest; rw [if_neg (by simpa using h), Kerb.decReq_ref]
  rw [sel_neg (by simp [h]), hd]
  
  have lt := Kerb.text_len b
  have lp := Kerb.rdPrin_len b
  cases e2 : ((Kerb.get b 2 1 false).val == 1 || (Kerb.get b 2 1 false).val == 3)
  · have e3 : ((Kerb.rdGet b 1 false 2 false).val == 1 || (Kerb.rdGet b 1 false 2 false).val == 3) = false := e2
    rw [sel_false, chk_of (by simp only [Bool.and_eq_true, decide_eq_true_eq, true_and]; exact ⟨⟨Nat.le_trans (lt _) (by omega), Nat.le_trans (lt _) (by omega)⟩, Nat.le_trans (lt _) (by omega)⟩)]
    exact Kerb.decBy_fin (no := Kerb.noKaReq) (enc := Kerb.encodeKaRequest) (rd := Kerb.rdKaReq) _ _ (by unfold Kerb.rdKaReq Kerb.rReq; dsimp only; rw [e3]; rfl) (fun x e => (AV.tup [AV.agg [AV.int IntKind.i64 (x).op, AV.str (x).user.name, AV.str (x).user.inst, AV.str (x).user.realm, AV.int IntKind.i64 (x).kvno, AV.str (x).realm, AV.bs (x).ticket, AV.str (x).service, AV.str (x).inst, AV.bs (x).box], AV.int IntKind.i64 e], ([] : Blocks)))
  · have e3 : ((Kerb.rdGet b 1 false 2 false).val == 1 || (Kerb.rdGet b 1 false 2 false).val == 3) = true := e2
    rw [sel_true, chk_of (by simp only [Bool.and_eq_true, decide_eq_true_eq, and_true]; exact ⟨⟨Nat.le_trans (lp _ _).1 (by omega), Nat.le_trans (lp _ _).2.1 (by omega)⟩, Nat.le_trans (lp _ _).2.2 (by omega)⟩)]
    exact Kerb.decBy_fin (no := Kerb.noKaReq) (enc := Kerb.encodeKaRequest) (rd := Kerb.rdKaReq) _ _ (by unfold Kerb.rdKaReq Kerb.rReq; dsimp only; rw [e3]; rfl) (fun x e => (AV.tup [AV.agg [AV.int IntKind.i64 (x).op, AV.str (x).user.name, AV.str (x).user.inst, AV.str (x).user.realm, AV.int IntKind.i64 (x).kvno, AV.str (x).realm, AV.bs (x).ticket, AV.str (x).service, AV.str (x).inst, AV.bs (x).box], AV.int IntKind.i64 e], ([] : Blocks)))

theorem w14 : Walked Tryz.prog G 14 5 sp14 := by
  refine ⟨Tryz.f14, Tryz.func14, by decide +kernel, rfl, fun xs bl r h => ?_⟩
  unfold sp14 at h
  split at h
  · obtain ⟨h1, h2⟩ := chk_inv h; cases h2; exact p14 _ h1
  · cases h

/- kerbsuite/kerbsuiteref22.DecodeSecret -/
theorem r16 (b : List UInt8) : runFn (G.env 16 5) G.rts (G.own 16) Tryz.f16 [.bs b] [] = Option.bind (chk (decide (List.length b ≤ (140737488355328 : Nat))) (some (AV.bs (Kerb.GotB.val (Kerb.bytes b (0 : Int) (4 : Int))), [[AV.bs b, AV.int IntKind.i64 (bif false || !Kerb.GotB.err (Kerb.bytes b (0 : Int) (4 : Int)) == (0 : Int) then (0 : Int) else Kerb.GotB.next (Kerb.bytes b (0 : Int) (4 : Int))), AV.bool false, AV.bool !Kerb.GotB.err (Kerb.bytes b (0 : Int) (4 : Int)) == (0 : Int)]]))) fun (r : AV × Blocks) => onConsB (Prod.snd r) fun (x : List AV) (r_1 : List (List AV)) => onCons x fun (x : AV) (r_2 : List AV) => AV.onBs x fun (b_1 : List UInt8) => onCons r_2 fun (x : AV) (r_3 : List AV) => AV.onInt IntKind.i64 x fun (n : Int) => onCons r_3 fun (x : AV) (r_4 : List AV) => AV.onBool x fun (b_2 : Bool) => onCons r_4 fun (x : AV) (r_5 : List AV) => AV.onBool x fun (b_3 : Bool) => onNil r_5 (onNilB r_1 (AV.onBs (Prod.fst r) fun (b_4 : List UInt8) => Option.bind (chk (decide (List.length b_1 ≤ (140737488355328 : Nat))) (some (AV.int IntKind.i64 (Kerb.Got.val (Kerb.get b_1 n (4 : Int) b_2)), [[AV.bs b_1, AV.int IntKind.i64 (bif b_3 || !Kerb.Got.err (Kerb.get b_1 n (4 : Int) b_2) == (0 : Int) then n else Kerb.Got.next (Kerb.get b_1 n (4 : Int) b_2)), AV.bool b_2, AV.bool (b_3 || !Kerb.Got.err (Kerb.get b_1 n (4 : Int) b_2) == (0 : Int))]]))) fun (r : AV × Blocks) => onConsB (Prod.snd r) fun (x : List AV) (r_6 : List (List AV)) => onCons x fun (x : AV) (r_7 : List AV) => AV.onBs x fun (b_5 : List UInt8) => onCons r_7 fun (x : AV) (r_8 : List AV) => AV.onInt IntKind.i64 x fun (n : Int) => onCons r_8 fun (x : AV) (r_9 : List AV) => AV.onBool x fun (b_6 : Bool) => onCons r_9 fun (x : AV) (r_10 : List AV) => AV.onBool x fun (b_7 : Bool) => onNil r_10 (onNilB r_6 (AV.onInt IntKind.i64 (Prod.fst r) fun (n_1 : Int) => sel (b_4 == [(67 : UInt8), (80 : UInt8), (87 : UInt8), (108 : UInt8)]) (Option.bind (chk (decide (List.length b_5 ≤ (140737488355328 : Nat))) (some (AV.bs (Kerb.GotB.val (Kerb.bytes b_5 n (8 : Int))), [[AV.bs b_5, AV.int IntKind.i64 (bif b_7 || !Kerb.GotB.err (Kerb.bytes b_5 n (8 : Int)) == (0 : Int) then n else Kerb.GotB.next (Kerb.bytes b_5 n (8 : Int))), AV.bool b_6, AV.bool (b_7 || !Kerb.GotB.err (Kerb.bytes b_5 n (8 : Int)) == (0 : Int))]]))) fun (r : AV × Blocks) => onConsB (Prod.snd r) fun (x : List AV) (r_11 : List (List AV)) => onCons x fun (x : AV) (r_12 : List AV) => AV.onBs x fun (b_8 : List UInt8) => onCons r_12 fun (x : AV) (r_13 : List AV) => AV.onInt IntKind.i64 x fun (n : Int) => onCons r_13 fun (x : AV) (r_14 : List AV) => AV.onBool x fun (b_9 : Bool) => onCons r_14 fun (x : AV) (r_15 : List AV) => AV.onBool x fun (b_10 : Bool) => onNil r_15 (onNilB r_11 (AV.onBs (Prod.fst r) fun (b_11 : List UInt8) => Option.bind (chk (decide (List.length b_11 ≤ (4611686018427387904 : Nat))) (some (AV.tup [AV.int IntKind.u64 (Prod.fst (Kerb.keyRead b_11)), AV.bool (Prod.snd (Kerb.keyRead b_11))], []))) fun (r : AV × Blocks) => onNilB (Prod.snd r) (AV.onTup (Prod.fst r) fun (vs : List AV) => onCons vs fun (x : AV) (r : List AV) => AV.onInt IntKind.u64 x fun (n : Int) => onCons r fun (x : AV) (r : List AV) => AV.onBool x fun (b_12 : Bool) => onNil r (Option.bind (chk (decide ((0 : Int) ≤ n) && decide (n < (18446744073709551616 : Int))) (some (AV.tup [AV.bs (Kerb.Enc.val (Kerb.encodeKaSecret (Kerb.KaSecret.mk b_4 n_1 (0 : Int) (0 : Int) n))), AV.int IntKind.i64 (Kerb.Enc.err (Kerb.encodeKaSecret (Kerb.KaSecret.mk b_4 n_1 (0 : Int) (0 : Int) n)))], []))) fun (r : AV × Blocks) => onNilB (Prod.snd r) (AV.onTup (Prod.fst r) fun (vs : List AV) => onCons vs fun (x : AV) (r : List AV) => AV.onBs x fun (b_13 : List UInt8) => onCons r fun (x : AV) (r : List AV) => AV.onInt IntKind.i64 x fun (n_2 : Int) => onNil r (sel b_10 (some (AV.tup [AV.agg [AV.str [], AV.int IntKind.i64 (0 : Int), AV.int IntKind.i64 (0 : Int), AV.int IntKind.i64 (0 : Int), AV.int IntKind.u64 (0 : Int)], AV.int IntKind.i64 (100 : Int)], [])) (sel (!n_2 == (0 : Int)) (some (AV.tup [AV.agg [AV.str [], AV.int IntKind.i64 (0 : Int), AV.int IntKind.i64 (0 : Int), AV.int IntKind.i64 (0 : Int), AV.int IntKind.u64 (0 : Int)], AV.int IntKind.i64 (100 : Int)], [])) (sel (!b_13 == b) (some (AV.tup [AV.agg [AV.str [], AV.int IntKind.i64 (0 : Int), AV.int IntKind.i64 (0 : Int), AV.int IntKind.i64 (0 : Int), AV.int IntKind.u64 (0 : Int)], AV.int IntKind.i64 (100 : Int)], [])) (some (AV.tup [AV.agg [AV.str b_4, AV.int IntKind.i64 n_1, AV.int IntKind.i64 (0 : Int), AV.int IntKind.i64 (0 : Int), AV.int IntKind.u64 n], AV.int IntKind.i64 (0 : Int)], []))))))))))) (Option.bind (chk (decide (List.length b_5 ≤ (140737488355328 : Nat))) (some (AV.int IntKind.i64 (Kerb.Got.val (Kerb.get b_5 n (4 : Int) b_6)), [[AV.bs b_5, AV.int IntKind.i64 (bif b_7 || !Kerb.Got.err (Kerb.get b_5 n (4 : Int) b_6) == (0 : Int) then n else Kerb.Got.next (Kerb.get b_5 n (4 : Int) b_6)), AV.bool b_6, AV.bool (b_7 || !Kerb.Got.err (Kerb.get b_5 n (4 : Int) b_6) == (0 : Int))]]))) fun (r : AV × Blocks) => onConsB (Prod.snd r) fun (x : List AV) (r_11 : List (List AV)) => onCons x fun (x : AV) (r_12 : List AV) => AV.onBs x fun (b_8 : List UInt8) => onCons r_12 fun (x : AV) (r_13 : List AV) => AV.onInt IntKind.i64 x fun (n : Int) => onCons r_13 fun (x : AV) (r_14 : List AV) => AV.onBool x fun (b_9 : Bool) => onCons r_14 fun (x : AV) (r_15 : List AV) => AV.onBool x fun (b_10 : Bool) => onNil r_15 (onNilB r_11 (AV.onInt IntKind.i64 (Prod.fst r) fun (n_2 : Int) => Option.bind (chk (decide (List.length b_8 ≤ (140737488355328 : Nat))) (some (AV.int IntKind.i64 (Kerb.Got.val (Kerb.get b_8 n (4 : Int) b_9)), [[AV.bs b_8, AV.int IntKind.i64 (bif b_10 || !Kerb.Got.err (Kerb.get b_8 n (4 : Int) b_9) == (0 : Int) then n else Kerb.Got.next (Kerb.get b_8 n (4 : Int) b_9)), AV.bool b_9, AV.bool (b_10 || !Kerb.Got.err (Kerb.get b_8 n (4 : Int) b_9) == (0 : Int))]]))) fun (r : AV × Blocks) => onConsB (Prod.snd r) fun (x : List AV) (r_16 : List (List AV)) => onCons x fun (x : AV) (r_17 : List AV) => AV.onBs x fun (b_11 : List UInt8) => onCons r_17 fun (x : AV) (r_18 : List AV) => AV.onInt IntKind.i64 x fun (n : Int) => onCons r_18 fun (x : AV) (r_19 : List AV) => AV.onBool x fun (b_12 : Bool) => onCons r_19 fun (x : AV) (r_20 : List AV) => AV.onBool x fun (b_13 : Bool) => onNil r_20 (onNilB r_16 (AV.onInt IntKind.i64 (Prod.fst r) fun (n : Int) => sel b_13 (some (AV.tup [AV.agg [AV.str [], AV.int IntKind.i64 (0 : Int), AV.int IntKind.i64 (0 : Int), AV.int IntKind.i64 (0 : Int), AV.int IntKind.u64 (0 : Int)], AV.int IntKind.i64 (100 : Int)], [])) (sel (!Kerb.Enc.err (Kerb.encodeKaSecret (Kerb.KaSecret.mk b_4 n_1 n_2 n (0 : Int))) == (0 : Int)) (some (AV.tup [AV.agg [AV.str [], AV.int IntKind.i64 (0 : Int), AV.int IntKind.i64 (0 : Int), AV.int IntKind.i64 (0 : Int), AV.int IntKind.u64 (0 : Int)], AV.int IntKind.i64 (100 : Int)], [])) (sel (!Kerb.Enc.val (Kerb.encodeKaSecret (Kerb.KaSecret.mk b_4 n_1 n_2 n (0 : Int))) == b) (some (AV.tup [AV.agg [AV.str [], AV.int IntKind.i64 (0 : Int), AV.int IntKind.i64 (0 : Int), AV.int IntKind.i64 (0 : Int), AV.int IntKind.u64 (0 : Int)], AV.int IntKind.i64 (100 : Int)], [])) (some (AV.tup [AV.agg [AV.str b_4, AV.int IntKind.i64 n_1, AV.int IntKind.i64 n_2, AV.int IntKind.i64 n, AV.int IntKind.u64 (0 : Int)], AV.int IntKind.i64 (0 : Int)], []))))))))))))) := by kernel_rfl

theorem p16 (b : List UInt8) (hpre : (decide (b.length ≤ 140737488355328)) = true) : runFn (G.env 16 5) G.rts (G.own 16) Tryz.f16 [.bs b] [] = some (.tup [.agg [.str ((Kerb.decodeKaSecret b).val).label, .int .i64 ((Kerb.decodeKaSecret b).val).time, .int .i64 ((Kerb.decodeKaSecret b).val).start, .int .i64 ((Kerb.decodeKaSecret b).val).stop, .int .u64 ((Kerb.decodeKaSecret b).val).new], .int .i64 (Kerb.decodeKaSecret b).err], []) := by
  rw [r16]
  have eGet : ([103, 84, 71, 83] : List UInt8) = Kerb.lGet := rfl
  have eTick : ([103, 84, 75, 84] : List UInt8) = Kerb.lTicket := rfl
  have eChg : ([67, 80, 87, 108] : List UInt8) = Kerb.lChange := rfl
  have eDone : ([67, 80, 87, 100] : List UInt8) = Kerb.lDone := rfl
  have eGot : ([116, 103, 115, 84] : List UInt8) = Kerb.lGot := rfl
  have eGiven : ([116, 107, 116, 71] : List UInt8) = Kerb.lGiven := rfl
  
  have hb := of_decide_eq_true hpre
  simp only [onInt_int, onU8_u8, onBool_bool, onStr_str, onBs_bs, onSl_sl, onAgg_agg, onTup_tup, onOwnB_ownB, onOwnL_ownL, onCons_cons, onNil_nil, onNilB_nil, onConsB_cons, chk_true, chk_bind, sel_bind, some_bind, exK_ret, exK_exit, sel_true, sel_false, hpre, eChg]
  rw [Kerb.decSec_ref]
  cases e2 : ((Kerb.bytes b 0 4).val == Kerb.lChange)
  · have e3 : ((Kerb.rdBytes b 4 0 false).val == Kerb.lChange) = false := e2
    rw [sel_false]
    exact Kerb.decBy_fin (no := Kerb.noKaSecret) (enc := Kerb.encodeKaSecret) (rd := Kerb.rdKaSec) _ _ (by unfold Kerb.rdKaSec Kerb.rSec; dsimp only; rw [e3]; rfl) (fun x e => (AV.tup [AV.agg [AV.str (x).label, AV.int IntKind.i64 (x).time, AV.int IntKind.i64 (x).start, AV.int IntKind.i64 (x).stop, AV.int IntKind.u64 (x).new], AV.int IntKind.i64 e], ([] : Blocks)))
  · have e3 : ((Kerb.rdBytes b 4 0 false).val == Kerb.lChange) = true := e2
    have hl : ∀ p n, (Kerb.bytes b p n).val.length ≤ 4611686018427387904 := fun p n => Nat.le_trans (Kerb.bytes_len b p n) (by omega)
    have hk : ∀ q, 0 ≤ (Kerb.keyRead q).1 ∧ (Kerb.keyRead q).1 < 18446744073709551616 := Kerb.keyRead_bd
    rw [sel_true, chk_of (by simp only [decide_eq_true_eq]; exact hl _ _), chk_of (by simp only [Bool.and_eq_true, decide_eq_true_eq]; exact hk _)]
    exact Kerb.decBy_fin (no := Kerb.noKaSecret) (enc := Kerb.encodeKaSecret) (rd := Kerb.rdKaSec) _ _ (by unfold Kerb.rdKaSec Kerb.rSec; dsimp only; rw [e3]; rfl) (fun x e => (AV.tup [AV.agg [AV.str (x).label, AV.int IntKind.i64 (x).time, AV.int IntKind.i64 (x).start, AV.int IntKind.i64 (x).stop, AV.int IntKind.u64 (x).new], AV.int IntKind.i64 e], ([] : Blocks)))

theorem w16 : Walked Tryz.prog G 16 5 sp16 := by
  refine ⟨Tryz.f16, Tryz.func16, by decide +kernel, rfl, fun xs bl r h => ?_⟩
  unfold sp16 at h
  split at h
  · obtain ⟨h1, h2⟩ := chk_inv h; cases h2; exact p16 _ h1
  · cases h

/- kerbsuite/kerbsuiteref22.DecodeReply -/
theorem r19 (b : List UInt8) : runFn (G.env 19 5) G.rts (G.own 19) Tryz.f19 [.bs b] [] = sel (!Prod.snd (Kerb.headIs b [(9 : Int)]) == (0 : Int)) (some (AV.tup [AV.agg [AV.int IntKind.i64 (0 : Int), AV.int IntKind.i64 (0 : Int), AV.bs []], AV.int IntKind.i64 (Prod.snd (Kerb.headIs b [(9 : Int)]))], [])) (Option.bind (chk (decide (List.length b ≤ (140737488355328 : Nat))) (some (AV.int IntKind.i64 (Kerb.Got.val (Kerb.get b (2 : Int) (1 : Int) false)), [[AV.bs b, AV.int IntKind.i64 (bif false || !Kerb.Got.err (Kerb.get b (2 : Int) (1 : Int) false) == (0 : Int) then (2 : Int) else Kerb.Got.next (Kerb.get b (2 : Int) (1 : Int) false)), AV.bool false, AV.bool !Kerb.Got.err (Kerb.get b (2 : Int) (1 : Int) false) == (0 : Int)]]))) fun (r : AV × Blocks) => onConsB (Prod.snd r) fun (x : List AV) (r_1 : List (List AV)) => onCons x fun (x : AV) (r_2 : List AV) => AV.onBs x fun (b_1 : List UInt8) => onCons r_2 fun (x : AV) (r_3 : List AV) => AV.onInt IntKind.i64 x fun (n : Int) => onCons r_3 fun (x : AV) (r_4 : List AV) => AV.onBool x fun (b_2 : Bool) => onCons r_4 fun (x : AV) (r_5 : List AV) => AV.onBool x fun (b_3 : Bool) => onNil r_5 (onNilB r_1 (AV.onInt IntKind.i64 (Prod.fst r) fun (n_1 : Int) => Option.bind (chk (decide (List.length b_1 ≤ (140737488355328 : Nat))) (some (AV.int IntKind.i64 (Kerb.Got.val (Kerb.get b_1 n (1 : Int) false)), [[AV.bs b_1, AV.int IntKind.i64 (bif b_3 || !Kerb.Got.err (Kerb.get b_1 n (1 : Int) false) == (0 : Int) then n else Kerb.Got.next (Kerb.get b_1 n (1 : Int) false)), AV.bool b_2, AV.bool (b_3 || !Kerb.Got.err (Kerb.get b_1 n (1 : Int) false) == (0 : Int))]]))) fun (r : AV × Blocks) => onConsB (Prod.snd r) fun (x : List AV) (r_6 : List (List AV)) => onCons x fun (x : AV) (r_7 : List AV) => AV.onBs x fun (b_4 : List UInt8) => onCons r_7 fun (x : AV) (r_8 : List AV) => AV.onInt IntKind.i64 x fun (n : Int) => onCons r_8 fun (x : AV) (r_9 : List AV) => AV.onBool x fun (b_5 : Bool) => onCons r_9 fun (x : AV) (r_10 : List AV) => AV.onBool x fun (b_6 : Bool) => onNil r_10 (onNilB r_6 (AV.onInt IntKind.i64 (Prod.fst r) fun (n_2 : Int) => Option.bind (chk (decide (List.length b_4 ≤ (140737488355328 : Nat))) (some (AV.int IntKind.i64 (Kerb.Got.val (Kerb.get b_4 n (2 : Int) b_5)), [[AV.bs b_4, AV.int IntKind.i64 (bif b_6 || !Kerb.Got.err (Kerb.get b_4 n (2 : Int) b_5) == (0 : Int) then n else Kerb.Got.next (Kerb.get b_4 n (2 : Int) b_5)), AV.bool b_5, AV.bool (b_6 || !Kerb.Got.err (Kerb.get b_4 n (2 : Int) b_5) == (0 : Int))]]))) fun (r : AV × Blocks) => onConsB (Prod.snd r) fun (x : List AV) (r_11 : List (List AV)) => onCons x fun (x : AV) (r_12 : List AV) => AV.onBs x fun (b_7 : List UInt8) => onCons r_12 fun (x : AV) (r_13 : List AV) => AV.onInt IntKind.i64 x fun (n : Int) => onCons r_13 fun (x : AV) (r_14 : List AV) => AV.onBool x fun (b_8 : Bool) => onCons r_14 fun (x : AV) (r_15 : List AV) => AV.onBool x fun (b_9 : Bool) => onNil r_15 (onNilB r_11 (AV.onInt IntKind.i64 (Prod.fst r) fun (n_3 : Int) => Option.bind (chk (decide (List.length b_7 ≤ (140737488355328 : Nat))) (some (AV.bs (Kerb.GotB.val (Kerb.bytes b_7 n n_3)), [[AV.bs b_7, AV.int IntKind.i64 (bif b_9 || !Kerb.GotB.err (Kerb.bytes b_7 n n_3) == (0 : Int) then n else Kerb.GotB.next (Kerb.bytes b_7 n n_3)), AV.bool b_8, AV.bool (b_9 || !Kerb.GotB.err (Kerb.bytes b_7 n n_3) == (0 : Int))]]))) fun (r : AV × Blocks) => onConsB (Prod.snd r) fun (x : List AV) (r_16 : List (List AV)) => onCons x fun (x : AV) (r_17 : List AV) => AV.onBs x fun (b_10 : List UInt8) => onCons r_17 fun (x : AV) (r_18 : List AV) => AV.onInt IntKind.i64 x fun (n : Int) => onCons r_18 fun (x : AV) (r_19 : List AV) => AV.onBool x fun (b_11 : Bool) => onCons r_19 fun (x : AV) (r_20 : List AV) => AV.onBool x fun (b_12 : Bool) => onNil r_20 (onNilB r_16 (AV.onBs (Prod.fst r) fun (b_13 : List UInt8) => sel b_12 (some (AV.tup [AV.agg [AV.int IntKind.i64 (0 : Int), AV.int IntKind.i64 (0 : Int), AV.bs []], AV.int IntKind.i64 (100 : Int)], [])) (sel (!Kerb.Enc.err (Kerb.encodeKaReply (Kerb.KaReply.mk (IntKind.wrap IntKind.i64 (n_1 - (128 : Int))) n_2 b_13)) == (0 : Int)) (some (AV.tup [AV.agg [AV.int IntKind.i64 (0 : Int), AV.int IntKind.i64 (0 : Int), AV.bs []], AV.int IntKind.i64 (100 : Int)], [])) (sel (!Kerb.Enc.val (Kerb.encodeKaReply (Kerb.KaReply.mk (IntKind.wrap IntKind.i64 (n_1 - (128 : Int))) n_2 b_13)) == b) (some (AV.tup [AV.agg [AV.int IntKind.i64 (0 : Int), AV.int IntKind.i64 (0 : Int), AV.bs []], AV.int IntKind.i64 (100 : Int)], [])) (some (AV.tup [AV.agg [AV.int IntKind.i64 (IntKind.wrap IntKind.i64 (n_1 - (128 : Int))), AV.int IntKind.i64 n_2, AV.bs b_13], AV.int IntKind.i64 (0 : Int)], []))))))))))))) := by kernel_rfl

theorem p19 (b : List UInt8) (hpre : (decide (b.length ≤ 140737488355328)) = true) : runFn (G.env 19 5) G.rts (G.own 19) Tryz.f19 [.bs b] [] = some (.tup [.agg [.int .i64 ((Kerb.decodeKaReply b).val).op, .int .i64 ((Kerb.decodeKaReply b).val).code, .bs ((Kerb.decodeKaReply b).val).box], .int .i64 (Kerb.decodeKaReply b).err], []) := by
  rw [r19]
  have hb := of_decide_eq_true hpre
  simp only [onInt_int, onU8_u8, onBool_bool, onStr_str, onBs_bs, onSl_sl, onAgg_agg, onTup_tup, onOwnB_ownB, onOwnL_ownL, onCons_cons, onNil_nil, onNilB_nil, onConsB_cons, chk_true, chk_bind, sel_bind, some_bind, exK_ret, exK_exit, sel_true, sel_false, hpre]
  by_cases h : (Kerb.headIs b [9]).2 = 0
  case neg =>
    rw [sel_pos (by simpa using h)]
    unfold Kerb.decodeKaReply
    rw [if_pos h]
    rfl
  have hd : Kerb.decodeKaReply b = Kerb.decBy Kerb.noKaReply Kerb.encodeKaReply Kerb.rdKaRep b := by unfold Kerb.decodeKaReply; rw [if_neg (by simpa using h), Kerb.decRep_ref]
  rw [sel_neg (by simp [h]), hd]
  
  have hg := Kerb.get_bd b 2 1 false (by omega)
  rw [wrap_i64 (by omega) (by omega)]
  exact Kerb.decBy_fin (no := Kerb.noKaReply) (enc := Kerb.encodeKaReply) (rd := Kerb.rdKaRep) _ _ rfl (fun x e => (AV.tup [AV.agg [AV.int IntKind.i64 (x).op, AV.int IntKind.i64 (x).code, AV.bs (x).box], AV.int IntKind.i64 e], ([] : Blocks)))

theorem w19 : Walked Tryz.prog G 19 5 sp19 := by
  refine ⟨Tryz.f19, Tryz.func19, by decide +kernel, rfl, fun xs bl r h => ?_⟩
  unfold sp19 at h
  split at h
  · obtain ⟨h1, h2⟩ := chk_inv h; cases h2; exact p19 _ h1
  · cases h

/- kerbsuite/kerbsuiteref22.DecodeAnswer -/
theorem r21 (b : List UInt8) : runFn (G.env 21 5) G.rts (G.own 21) Tryz.f21 [.bs b] [] = Option.bind (chk (decide (List.length b ≤ (140737488355328 : Nat))) (some (AV.bs (Kerb.GotB.val (Kerb.bytes b (0 : Int) (4 : Int))), [[AV.bs b, AV.int IntKind.i64 (bif false || !Kerb.GotB.err (Kerb.bytes b (0 : Int) (4 : Int)) == (0 : Int) then (0 : Int) else Kerb.GotB.next (Kerb.bytes b (0 : Int) (4 : Int))), AV.bool false, AV.bool !Kerb.GotB.err (Kerb.bytes b (0 : Int) (4 : Int)) == (0 : Int)]]))) fun (r : AV × Blocks) => onConsB (Prod.snd r) fun (x : List AV) (r_1 : List (List AV)) => onCons x fun (x : AV) (r_2 : List AV) => AV.onBs x fun (b_1 : List UInt8) => onCons r_2 fun (x : AV) (r_3 : List AV) => AV.onInt IntKind.i64 x fun (n : Int) => onCons r_3 fun (x : AV) (r_4 : List AV) => AV.onBool x fun (b_2 : Bool) => onCons r_4 fun (x : AV) (r_5 : List AV) => AV.onBool x fun (b_3 : Bool) => onNil r_5 (onNilB r_1 (AV.onBs (Prod.fst r) fun (b_4 : List UInt8) => Option.bind (chk (decide (List.length b_1 ≤ (140737488355328 : Nat))) (some (AV.int IntKind.i64 (Kerb.Got.val (Kerb.get b_1 n (4 : Int) b_2)), [[AV.bs b_1, AV.int IntKind.i64 (bif b_3 || !Kerb.Got.err (Kerb.get b_1 n (4 : Int) b_2) == (0 : Int) then n else Kerb.Got.next (Kerb.get b_1 n (4 : Int) b_2)), AV.bool b_2, AV.bool (b_3 || !Kerb.Got.err (Kerb.get b_1 n (4 : Int) b_2) == (0 : Int))]]))) fun (r : AV × Blocks) => onConsB (Prod.snd r) fun (x : List AV) (r_6 : List (List AV)) => onCons x fun (x : AV) (r_7 : List AV) => AV.onBs x fun (b_5 : List UInt8) => onCons r_7 fun (x : AV) (r_8 : List AV) => AV.onInt IntKind.i64 x fun (n : Int) => onCons r_8 fun (x : AV) (r_9 : List AV) => AV.onBool x fun (b_6 : Bool) => onCons r_9 fun (x : AV) (r_10 : List AV) => AV.onBool x fun (b_7 : Bool) => onNil r_10 (onNilB r_6 (AV.onInt IntKind.i64 (Prod.fst r) fun (n_1 : Int) => sel (!b_4 == [(67 : UInt8), (80 : UInt8), (87 : UInt8), (100 : UInt8)]) (Option.bind (chk (decide (List.length b_5 ≤ (140737488355328 : Nat))) (some (AV.bs (Kerb.GotB.val (Kerb.bytes b_5 n (8 : Int))), [[AV.bs b_5, AV.int IntKind.i64 (bif b_7 || !Kerb.GotB.err (Kerb.bytes b_5 n (8 : Int)) == (0 : Int) then n else Kerb.GotB.next (Kerb.bytes b_5 n (8 : Int))), AV.bool b_6, AV.bool (b_7 || !Kerb.GotB.err (Kerb.bytes b_5 n (8 : Int)) == (0 : Int))]]))) fun (r : AV × Blocks) => onConsB (Prod.snd r) fun (x : List AV) (r_11 : List (List AV)) => onCons x fun (x : AV) (r_12 : List AV) => AV.onBs x fun (b_8 : List UInt8) => onCons r_12 fun (x : AV) (r_13 : List AV) => AV.onInt IntKind.i64 x fun (n : Int) => onCons r_13 fun (x : AV) (r_14 : List AV) => AV.onBool x fun (b_9 : Bool) => onCons r_14 fun (x : AV) (r_15 : List AV) => AV.onBool x fun (b_10 : Bool) => onNil r_15 (onNilB r_11 (AV.onBs (Prod.fst r) fun (b_11 : List UInt8) => Option.bind (chk (decide (List.length b_11 ≤ (4611686018427387904 : Nat))) (some (AV.tup [AV.int IntKind.u64 (Prod.fst (Kerb.keyRead b_11)), AV.bool (Prod.snd (Kerb.keyRead b_11))], []))) fun (r : AV × Blocks) => onNilB (Prod.snd r) (AV.onTup (Prod.fst r) fun (vs : List AV) => onCons vs fun (x : AV) (r : List AV) => AV.onInt IntKind.u64 x fun (n_2 : Int) => onCons r fun (x : AV) (r : List AV) => AV.onBool x fun (b_12 : Bool) => onNil r (Option.bind (chk (decide (List.length b_8 ≤ (140737488355328 : Nat))) (some (AV.int IntKind.i64 (Kerb.Got.val (Kerb.get b_8 n (4 : Int) b_9)), [[AV.bs b_8, AV.int IntKind.i64 (bif b_10 || !Kerb.Got.err (Kerb.get b_8 n (4 : Int) b_9) == (0 : Int) then n else Kerb.Got.next (Kerb.get b_8 n (4 : Int) b_9)), AV.bool b_9, AV.bool (b_10 || !Kerb.Got.err (Kerb.get b_8 n (4 : Int) b_9) == (0 : Int))]]))) fun (r : AV × Blocks) => onConsB (Prod.snd r) fun (x : List AV) (r_16 : List (List AV)) => onCons x fun (x : AV) (r_17 : List AV) => AV.onBs x fun (b_13 : List UInt8) => onCons r_17 fun (x : AV) (r_18 : List AV) => AV.onInt IntKind.i64 x fun (n : Int) => onCons r_18 fun (x : AV) (r_19 : List AV) => AV.onBool x fun (b_14 : Bool) => onCons r_19 fun (x : AV) (r_20 : List AV) => AV.onBool x fun (b_15 : Bool) => onNil r_20 (onNilB r_16 (AV.onInt IntKind.i64 (Prod.fst r) fun (n_3 : Int) => Option.bind (chk (decide (List.length b_13 ≤ (140737488355328 : Nat))) (some (AV.int IntKind.i64 (Kerb.Got.val (Kerb.get b_13 n (4 : Int) b_14)), [[AV.bs b_13, AV.int IntKind.i64 (bif b_15 || !Kerb.Got.err (Kerb.get b_13 n (4 : Int) b_14) == (0 : Int) then n else Kerb.Got.next (Kerb.get b_13 n (4 : Int) b_14)), AV.bool b_14, AV.bool (b_15 || !Kerb.Got.err (Kerb.get b_13 n (4 : Int) b_14) == (0 : Int))]]))) fun (r : AV × Blocks) => onConsB (Prod.snd r) fun (x : List AV) (r_21 : List (List AV)) => onCons x fun (x : AV) (r_22 : List AV) => AV.onBs x fun (b_16 : List UInt8) => onCons r_22 fun (x : AV) (r_23 : List AV) => AV.onInt IntKind.i64 x fun (n : Int) => onCons r_23 fun (x : AV) (r_24 : List AV) => AV.onBool x fun (b_17 : Bool) => onCons r_24 fun (x : AV) (r_25 : List AV) => AV.onBool x fun (b_18 : Bool) => onNil r_25 (onNilB r_21 (AV.onInt IntKind.i64 (Prod.fst r) fun (n_4 : Int) => Option.bind (chk (decide (List.length b_16 ≤ (140737488355328 : Nat))) (some (AV.int IntKind.i64 (Kerb.Got.val (Kerb.get b_16 n (1 : Int) false)), [[AV.bs b_16, AV.int IntKind.i64 (bif b_18 || !Kerb.Got.err (Kerb.get b_16 n (1 : Int) false) == (0 : Int) then n else Kerb.Got.next (Kerb.get b_16 n (1 : Int) false)), AV.bool b_17, AV.bool (b_18 || !Kerb.Got.err (Kerb.get b_16 n (1 : Int) false) == (0 : Int))]]))) fun (r : AV × Blocks) => onConsB (Prod.snd r) fun (x : List AV) (r_26 : List (List AV)) => onCons x fun (x : AV) (r_27 : List AV) => AV.onBs x fun (b_19 : List UInt8) => onCons r_27 fun (x : AV) (r_28 : List AV) => AV.onInt IntKind.i64 x fun (n : Int) => onCons r_28 fun (x : AV) (r_29 : List AV) => AV.onBool x fun (b_20 : Bool) => onCons r_29 fun (x : AV) (r_30 : List AV) => AV.onBool x fun (b_21 : Bool) => onNil r_30 (onNilB r_26 (AV.onInt IntKind.i64 (Prod.fst r) fun (n_5 : Int) => Option.bind (chk (decide (List.length b_19 ≤ (140737488355328 : Nat))) (some (AV.agg [AV.str (Kerb.Prin.name (Kerb.RdP.p (Kerb.rdPrin b_19 n b_21))), AV.str (Kerb.Prin.inst (Kerb.RdP.p (Kerb.rdPrin b_19 n b_21))), AV.str (Kerb.Prin.realm (Kerb.RdP.p (Kerb.rdPrin b_19 n b_21)))], [[AV.bs b_19, AV.int IntKind.i64 (Kerb.RdP.pos (Kerb.rdPrin b_19 n b_21)), AV.bool b_20, AV.bool (Kerb.RdP.bad (Kerb.rdPrin b_19 n b_21))]]))) fun (r : AV × Blocks) => onConsB (Prod.snd r) fun (x : List AV) (r_31 : List (List AV)) => onCons x fun (x : AV) (r_32 : List AV) => AV.onBs x fun (b_22 : List UInt8) => onCons r_32 fun (x : AV) (r_33 : List AV) => AV.onInt IntKind.i64 x fun (n : Int) => onCons r_33 fun (x : AV) (r_34 : List AV) => AV.onBool x fun (b_23 : Bool) => onCons r_34 fun (x : AV) (r_35 : List AV) => AV.onBool x fun (b_24 : Bool) => onNil r_35 (onNilB r_31 (AV.onAgg (Prod.fst r) fun (cs : List AV) => onCons cs fun (x : AV) (r : List AV) => AV.onStr x fun (b_25 : List UInt8) => onCons r fun (x : AV) (r : List AV) => AV.onStr x fun (b_26 : List UInt8) => onCons r fun (x : AV) (r : List AV) => AV.onStr x fun (b_27 : List UInt8) => onNil r (Option.bind (chk (decide (List.length b_22 ≤ (140737488355328 : Nat))) (some (AV.int IntKind.i64 (Kerb.Got.val (Kerb.get b_22 n (1 : Int) false)), [[AV.bs b_22, AV.int IntKind.i64 (bif b_24 || !Kerb.Got.err (Kerb.get b_22 n (1 : Int) false) == (0 : Int) then n else Kerb.Got.next (Kerb.get b_22 n (1 : Int) false)), AV.bool b_23, AV.bool (b_24 || !Kerb.Got.err (Kerb.get b_22 n (1 : Int) false) == (0 : Int))]]))) fun (r : AV × Blocks) => onConsB (Prod.snd r) fun (x : List AV) (r_36 : List (List AV)) => onCons x fun (x : AV) (r_37 : List AV) => AV.onBs x fun (b_28 : List UInt8) => onCons r_37 fun (x : AV) (r_38 : List AV) => AV.onInt IntKind.i64 x fun (n : Int) => onCons r_38 fun (x : AV) (r_39 : List AV) => AV.onBool x fun (b_29 : Bool) => onCons r_39 fun (x : AV) (r_40 : List AV) => AV.onBool x fun (b_30 : Bool) => onNil r_40 (onNilB r_36 (AV.onInt IntKind.i64 (Prod.fst r) fun (n_6 : Int) => Option.bind (chk (decide (List.length b_28 ≤ (140737488355328 : Nat))) (some (AV.bs (Kerb.GotB.val (Kerb.bytes b_28 n n_6)), [[AV.bs b_28, AV.int IntKind.i64 (bif b_30 || !Kerb.GotB.err (Kerb.bytes b_28 n n_6) == (0 : Int) then n else Kerb.GotB.next (Kerb.bytes b_28 n n_6)), AV.bool b_29, AV.bool (b_30 || !Kerb.GotB.err (Kerb.bytes b_28 n n_6) == (0 : Int))]]))) fun (r : AV × Blocks) => onConsB (Prod.snd r) fun (x : List AV) (r_41 : List (List AV)) => onCons x fun (x : AV) (r_42 : List AV) => AV.onBs x fun (b_31 : List UInt8) => onCons r_42 fun (x : AV) (r_43 : List AV) => AV.onInt IntKind.i64 x fun (n : Int) => onCons r_43 fun (x : AV) (r_44 : List AV) => AV.onBool x fun (b_32 : Bool) => onCons r_44 fun (x : AV) (r_45 : List AV) => AV.onBool x fun (b_33 : Bool) => onNil r_45 (onNilB r_41 (AV.onBs (Prod.fst r) fun (b_34 : List UInt8) => Option.bind (chk (decide (List.length b_25 ≤ (4611686018427387904 : Nat)) && decide (List.length b_26 ≤ (4611686018427387904 : Nat)) && decide (List.length b_27 ≤ (4611686018427387904 : Nat)) && decide ((0 : Int) ≤ n_2) && decide (n_2 < (18446744073709551616 : Int))) (some (AV.tup [AV.bs (Kerb.Enc.val (Kerb.encodeKaAnswer (Kerb.KaAnswer.mk b_4 n_1 n_2 n_3 n_4 n_5 (Kerb.Prin.mk b_25 b_26 b_27) b_34))), AV.int IntKind.i64 (Kerb.Enc.err (Kerb.encodeKaAnswer (Kerb.KaAnswer.mk b_4 n_1 n_2 n_3 n_4 n_5 (Kerb.Prin.mk b_25 b_26 b_27) b_34)))], []))) fun (r : AV × Blocks) => onNilB (Prod.snd r) (AV.onTup (Prod.fst r) fun (vs : List AV) => onCons vs fun (x : AV) (r : List AV) => AV.onBs x fun (b_35 : List UInt8) => onCons r fun (x : AV) (r : List AV) => AV.onInt IntKind.i64 x fun (n : Int) => onNil r (sel b_33 (some (AV.tup [AV.agg [AV.str [], AV.int IntKind.i64 (0 : Int), AV.int IntKind.u64 (0 : Int), AV.int IntKind.i64 (0 : Int), AV.int IntKind.i64 (0 : Int), AV.int IntKind.i64 (0 : Int), AV.str [], AV.str [], AV.str [], AV.bs []], AV.int IntKind.i64 (100 : Int)], [])) (sel (!n == (0 : Int)) (some (AV.tup [AV.agg [AV.str [], AV.int IntKind.i64 (0 : Int), AV.int IntKind.u64 (0 : Int), AV.int IntKind.i64 (0 : Int), AV.int IntKind.i64 (0 : Int), AV.int IntKind.i64 (0 : Int), AV.str [], AV.str [], AV.str [], AV.bs []], AV.int IntKind.i64 (100 : Int)], [])) (sel (!b_35 == b) (some (AV.tup [AV.agg [AV.str [], AV.int IntKind.i64 (0 : Int), AV.int IntKind.u64 (0 : Int), AV.int IntKind.i64 (0 : Int), AV.int IntKind.i64 (0 : Int), AV.int IntKind.i64 (0 : Int), AV.str [], AV.str [], AV.str [], AV.bs []], AV.int IntKind.i64 (100 : Int)], [])) (some (AV.tup [AV.agg [AV.str b_4, AV.int IntKind.i64 n_1, AV.int IntKind.u64 n_2, AV.int IntKind.i64 n_3, AV.int IntKind.i64 n_4, AV.int IntKind.i64 n_5, AV.str b_25, AV.str b_26, AV.str b_27, AV.bs b_34], AV.int IntKind.i64 (0 : Int)], [])))))))))))))))))))))))) (sel b_7 (some (AV.tup [AV.agg [AV.str [], AV.int IntKind.i64 (0 : Int), AV.int IntKind.u64 (0 : Int), AV.int IntKind.i64 (0 : Int), AV.int IntKind.i64 (0 : Int), AV.int IntKind.i64 (0 : Int), AV.str [], AV.str [], AV.str [], AV.bs []], AV.int IntKind.i64 (100 : Int)], [])) (sel (!Kerb.Enc.err (Kerb.encodeKaAnswer (Kerb.KaAnswer.mk b_4 n_1 (0 : Int) (0 : Int) (0 : Int) (0 : Int) (Kerb.Prin.mk [] [] []) [])) == (0 : Int)) (some (AV.tup [AV.agg [AV.str [], AV.int IntKind.i64 (0 : Int), AV.int IntKind.u64 (0 : Int), AV.int IntKind.i64 (0 : Int), AV.int IntKind.i64 (0 : Int), AV.int IntKind.i64 (0 : Int), AV.str [], AV.str [], AV.str [], AV.bs []], AV.int IntKind.i64 (100 : Int)], [])) (sel (!Kerb.Enc.val (Kerb.encodeKaAnswer (Kerb.KaAnswer.mk b_4 n_1 (0 : Int) (0 : Int) (0 : Int) (0 : Int) (Kerb.Prin.mk [] [] []) [])) == b) (some (AV.tup [AV.agg [AV.str [], AV.int IntKind.i64 (0 : Int), AV.int IntKind.u64 (0 : Int), AV.int IntKind.i64 (0 : Int), AV.int IntKind.i64 (0 : Int), AV.int IntKind.i64 (0 : Int), AV.str [], AV.str [], AV.str [], AV.bs []], AV.int IntKind.i64 (100 : Int)], [])) (some (AV.tup [AV.agg [AV.str b_4, AV.int IntKind.i64 n_1, AV.int IntKind.u64 (0 : Int), AV.int IntKind.i64 (0 : Int), AV.int IntKind.i64 (0 : Int), AV.int IntKind.i64 (0 : Int), AV.str [], AV.str [], AV.str [], AV.bs []], AV.int IntKind.i64 (0 : Int)], []))))))))) := by kernel_rfl

set_option maxHeartbeats 1600000 in
theorem p21 (b : List UInt8) (hpre : (decide (b.length ≤ 140737488355328)) = true) : runFn (G.env 21 5) G.rts (G.own 21) Tryz.f21 [.bs b] [] = some (.tup [.agg [.str ((Kerb.decodeKaAnswer b).val).label, .int .i64 ((Kerb.decodeKaAnswer b).val).time, .int .u64 ((Kerb.decodeKaAnswer b).val).session, .int .i64 ((Kerb.decodeKaAnswer b).val).start, .int .i64 ((Kerb.decodeKaAnswer b).val).stop, .int .i64 ((Kerb.decodeKaAnswer b).val).kvno, .str ((Kerb.decodeKaAnswer b).val).service.name, .str ((Kerb.decodeKaAnswer b).val).service.inst, .str ((Kerb.decodeKaAnswer b).val).service.realm, .bs ((Kerb.decodeKaAnswer b).val).ticket], .int .i64 (Kerb.decodeKaAnswer b).err], []) := by
  rw [r21]
  have eGet : ([103, 84, 71, 83] : List UInt8) = Kerb.lGet := rfl
  have eTick : ([103, 84, 75, 84] : List UInt8) = Kerb.lTicket := rfl
  have eChg : ([67, 80, 87, 108] : List UInt8) = Kerb.lChange := rfl
  have eDone : ([67, 80, 87, 100] : List UInt8) = Kerb.lDone := rfl
  have eGot : ([116, 103, 115, 84] : List UInt8) = Kerb.lGot := rfl
  have eGiven : ([116, 107, 116, 71] : List UInt8) = Kerb.lGiven := rfl
  
  have hb := of_decide_eq_true hpre
  simp only [onInt_int, onU8_u8, onBool_bool, onStr_str, onBs_bs, onSl_sl, onAgg_agg, onTup_tup, onOwnB_ownB, onOwnL_ownL, onCons_cons, onNil_nil, onNilB_nil, onConsB_cons, chk_true, chk_bind, sel_bind, some_bind, exK_ret, exK_exit, sel_true, sel_false, hpre, eDone]
  rw [Kerb.decAns_ref]
  cases e2 : ((Kerb.bytes b 0 4).val == Kerb.lDone)
  · have e3 : ((Kerb.rdBytes b 4 0 false).val == Kerb.lDone) = false := e2
    have hl : ∀ p n, (Kerb.bytes b p n).val.length ≤ 4611686018427387904 := fun p n => Nat.le_trans (Kerb.bytes_len b p n) (by omega)
    have hk : ∀ q, 0 ≤ (Kerb.keyRead q).1 ∧ (Kerb.keyRead q).1 < 18446744073709551616 := Kerb.keyRead_bd
    have lp := Kerb.rdPrin_len b
    rw [Bool.not_false, sel_true, chk_of (by simp only [decide_eq_true_eq]; exact hl _ _), chk_of (by simp only [Bool.and_eq_true, decide_eq_true_eq]; exact ⟨⟨⟨⟨Nat.le_trans (lp _ _).1 (by omega), Nat.le_trans (lp _ _).2.1 (by omega)⟩, Nat.le_trans (lp _ _).2.2 (by omega)⟩, (hk _).1⟩, (hk _).2⟩)]
    exact Kerb.decBy_fin (no := Kerb.noKaAnswer) (enc := Kerb.encodeKaAnswer) (rd := Kerb.rdKaAns) _ _ (by unfold Kerb.rdKaAns Kerb.rAns; dsimp only; rw [e3]; rfl) (fun x e => (AV.tup [AV.agg [AV.str (x).label, AV.int IntKind.i64 (x).time, AV.int IntKind.u64 (x).session, AV.int IntKind.i64 (x).start, AV.int IntKind.i64 (x).stop, AV.int IntKind.i64 (x).kvno, AV.str (x).service.name, AV.str (x).service.inst, AV.str (x).service.realm, AV.bs (x).ticket], AV.int IntKind.i64 e], ([] : Blocks)))
  · have e3 : ((Kerb.rdBytes b 4 0 false).val == Kerb.lDone) = true := e2
    refine Eq.trans (sel_neg rfl _ _) ?_
    exact Kerb.decBy_fin (no := Kerb.noKaAnswer) (enc := Kerb.encodeKaAnswer) (rd := Kerb.rdKaAns) _ _ (by unfold Kerb.rdKaAns Kerb.rAns; dsimp only; rw [e3]; rfl) (fun x e => (AV.tup [AV.agg [AV.str (x).label, AV.int IntKind.i64 (x).time, AV.int IntKind.u64 (x).session, AV.int IntKind.i64 (x).start, AV.int IntKind.i64 (x).stop, AV.int IntKind.i64 (x).kvno, AV.str (x).service.name, AV.str (x).service.inst, AV.str (x).service.realm, AV.bs (x).ticket], AV.int IntKind.i64 e], ([] : Blocks)))

theorem w21 : Walked Tryz.prog G 21 5 sp21 := by
  refine ⟨Tryz.f21, Tryz.func21, by decide +kernel, rfl, fun xs bl r h => ?_⟩
  unfold sp21 at h
  split at h
  · obtain ⟨h1, h2⟩ := chk_inv h; cases h2; exact p21 _ h1
  · cases h

/- (*kerbsuite/kamessage.reader).key -/
theorem r60 (B : List UInt8) (at_ : Int) (bad : Bool) : runFn (G.env 60 5) G.rts (G.own 60) Tryz.f60 [.ptr 0 0] [(0, [.bs B, .int .i64 at_, .bool bad])] = Option.bind (chk (decide (List.length B ≤ (140737488355328 : Nat))) (some (AV.bs (Kerb.Rd.val (Kerb.pBytes B (8 : Int) at_ bad)), [[AV.bs B, AV.int IntKind.i64 (Kerb.Rd.pos (Kerb.pBytes B (8 : Int) at_ bad)), AV.bool (Kerb.Rd.bad (Kerb.pBytes B (8 : Int) at_ bad))]]))) fun (r : AV × Blocks) => onConsB (Prod.snd r) fun (x : List AV) (r_1 : List (List AV)) => onCons x fun (x : AV) (r_2 : List AV) => AV.onBs x fun (b : List UInt8) => onCons r_2 fun (x : AV) (r_3 : List AV) => AV.onInt IntKind.i64 x fun (n : Int) => onCons r_3 fun (x : AV) (r_4 : List AV) => AV.onBool x fun (b_1 : Bool) => onNil r_4 (onNilB r_1 (AV.onBs (Prod.fst r) fun (b_2 : List UInt8) => Option.bind (chk (decide (List.length b_2 ≤ (4611686018427387904 : Nat))) (some (AV.tup [AV.int IntKind.u64 (Prod.fst (Kerb.keyRead b_2)), AV.bool (Prod.snd (Kerb.keyRead b_2))], []))) fun (r : AV × Blocks) => onNilB (Prod.snd r) (AV.onTup (Prod.fst r) fun (vs : List AV) => onCons vs fun (x : AV) (r : List AV) => AV.onInt IntKind.u64 x fun (n_1 : Int) => onCons r fun (x : AV) (r : List AV) => AV.onBool x fun (b_3 : Bool) => onNil r (sel (!b_3) (some (AV.int IntKind.u64 (0 : Int), [[AV.bs b, AV.int IntKind.i64 n, AV.bool true]])) (some (AV.int IntKind.u64 n_1, [[AV.bs b, AV.int IntKind.i64 n, AV.bool b_1]])))))) := by kernel_rfl

theorem p60 (B : List UInt8) (at_ : Int) (bad : Bool) (hpre : (decide (B.length ≤ 140737488355328)) = true) : runFn (G.env 60 5) G.rts (G.own 60) Tryz.f60 [.ptr 0 0] [(0, [.bs B, .int .i64 at_, .bool bad])] = some (.int .u64 (Kerb.pKey B at_ bad).val, [[.bs B, .int .i64 (Kerb.pKey B at_ bad).pos, .bool (Kerb.pKey B at_ bad).bad]]) := by
  rw [r60]
  have hb := of_decide_eq_true hpre
  simp only [onInt_int, onU8_u8, onBool_bool, onStr_str, onBs_bs, onSl_sl, onAgg_agg, onTup_tup, onOwnB_ownB, onOwnL_ownL, onCons_cons, onNil_nil, onNilB_nil, onConsB_cons, chk_true, chk_bind, sel_bind, some_bind, exK_ret, exK_exit, sel_true, sel_false]
  have hl : (Kerb.pBytes B 8 at_ bad).val.length ≤ B.length := Kerb.pBytes_len B 8 at_ bad
  rw [chk_of hpre, chk_of (by simp; omega)]
  unfold Kerb.pKey
  cases (Kerb.keyRead (Kerb.pBytes B 8 at_ bad).val).2
  · simp [sel]
  · simp [sel]

theorem w60 : Walked Tryz.prog G 60 5 sp60 := by
  refine ⟨Tryz.f60, Tryz.func60, by decide +kernel, rfl, fun xs bl r h => ?_⟩
  unfold sp60 at h
  split at h
  · obtain ⟨h1, h2⟩ := chk_inv h; cases h2; exact p60 _ _ _ h1
  · cases h

/- kerbsuite/kamessage.EncodeSecret -/
theorem r61 (lb : List UInt8) (t st en k : Int) : runFn (G.env 61 5) G.rts (G.own 61) Tryz.f61 [.agg [.str lb, .int .i64 t, .int .i64 st, .int .i64 en, .int .u64 k]] [] = Option.bind (chk (decide ((0 : Int) ≤ k) && decide (k < (18446744073709551616 : Int))) (some (AV.int IntKind.i64 (Kerb.Enc.err (Kerb.encodeKaSecret (Kerb.KaSecret.mk lb t st en k))), []))) fun (r : AV × Blocks) => onNilB (Prod.snd r) (AV.onInt IntKind.i64 (Prod.fst r) fun (n : Int) => sel (!n == (0 : Int)) (some (AV.tup [AV.bs [], AV.int IntKind.i64 n], [])) (Option.bind (chk (decide (List.length lb ≤ (70368744177664 : Nat))) (some (AV.ownB (lb ++ Kerb.putN t (4 : Nat) false), []))) fun (r : AV × Blocks) => onNilB (Prod.snd r) (AV.onOwnB (Prod.fst r) fun (l : List UInt8) => sel (Kerb.timed lb) (Option.bind (chk (decide (List.length l ≤ (70368744177664 : Nat))) (some (AV.ownB (l ++ Kerb.putN st (4 : Nat) false), []))) fun (r : AV × Blocks) => onNilB (Prod.snd r) (AV.onOwnB (Prod.fst r) fun (l : List UInt8) => Option.bind (chk (decide (List.length l ≤ (70368744177664 : Nat))) (some (AV.ownB (l ++ Kerb.putN en (4 : Nat) false), []))) fun (r : AV × Blocks) => onNilB (Prod.snd r) (AV.onOwnB (Prod.fst r) fun (l : List UInt8) => Option.bind (chk (decide (List.length l ≤ (70368744177664 : Nat))) (some (AV.bs (Kerb.pad l), []))) fun (r : AV × Blocks) => onNilB (Prod.snd r) (AV.onBs (Prod.fst r) fun (b : List UInt8) => some (AV.tup [AV.bs b, AV.int IntKind.i64 (0 : Int)], []))))) (Option.bind (chk (decide ((0 : Int) ≤ k) && decide (k < (18446744073709551616 : Int))) (some (AV.bs (Kerb.keyBytes k), []))) fun (r : AV × Blocks) => onNilB (Prod.snd r) (AV.onBs (Prod.fst r) fun (b : List UInt8) => chk (room (List.length l + List.length b) (1 : Nat)) (Option.bind (chk (decide (List.length (l ++ b) ≤ (70368744177664 : Nat))) (some (AV.bs (Kerb.pad (l ++ b)), []))) fun (r : AV × Blocks) => onNilB (Prod.snd r) (AV.onBs (Prod.fst r) fun (b : List UInt8) => some (AV.tup [AV.bs b, AV.int IntKind.i64 (0 : Int)], [])))))))) := by kernel_rfl

theorem p61 (lb : List UInt8) (t st en k : Int) (hpre : (decide (0 ≤ k) && decide (k < 18446744073709551616)) = true) : runFn (G.env 61 5) G.rts (G.own 61) Tryz.f61 [.agg [.str lb, .int .i64 t, .int .i64 st, .int .i64 en, .int .u64 k]] [] = some (.tup [.bs (Kerb.encodeKaSecret ⟨lb, t, st, en, k⟩).val, .int .i64 (Kerb.encodeKaSecret ⟨lb, t, st, en, k⟩).err], []) := by
  rw [r61]
  simp only [onInt_int, onU8_u8, onBool_bool, onStr_str, onBs_bs, onSl_sl, onAgg_agg, onTup_tup, onOwnB_ownB, onOwnL_ownL, onCons_cons, onNil_nil, onNilB_nil, onConsB_cons, chk_true, chk_bind, sel_bind, some_bind, exK_ret, exK_exit, sel_true, sel_false, hpre]
  by_cases he : (Kerb.encodeKaSecret (Kerb.KaSecret.mk lb t st en k)).err = 0
  case neg => rw [sel_pos (by simpa using he), Kerb.encKaSec_no he]
  rw [sel_neg (by simp [he]), he]
  have hl : lb.length = 4 := by
    obtain ⟨_, ⟨_, h4, _⟩ | ⟨h4, _⟩⟩ := Kerb.encKaSec_inv he
    · exact h4
    · simp only at h4; rw [h4]; rfl
  rw [chk_of (by simp; omega)]
  rcases Kerb.encKaSec_val he with ⟨ht, hv⟩ | ⟨ht, hv⟩
  · rw [sel_pos ht, hv, chk_of (by simp [Kerb.putN_len]; omega), chk_of (by simp [Kerb.putN_len]; omega), chk_of (by simp [Kerb.putN_len]; omega)]
  · rw [sel_neg ht, hv, chk_of (Kerb.room_ok (by simp [Kerb.putN_len, Kerb.keyBytes_len]; omega)), chk_of (by simp [Kerb.putN_len, Kerb.keyBytes_len]; omega)]

theorem w61 : Walked Tryz.prog G 61 5 sp61 := by
  refine ⟨Tryz.f61, Tryz.func61, by decide +kernel, rfl, fun xs bl r h => ?_⟩
  unfold sp61 at h
  split at h
  · obtain ⟨h1, h2⟩ := chk_inv h; cases h2; exact p61 _ _ _ _ _ h1
  · cases h

/- kerbsuite/kamessage.putTicket -/
theorem r71 (b t : List UInt8) : runFn (G.env 71 5) G.rts (G.own 71) Tryz.f71 [.bs b, .bs t] [] = Option.bind (chk (decide (List.length b ≤ (70368744177664 : Nat))) (some (AV.ownB (b ++ Kerb.putN (↑(List.length t) : Int) (1 : Nat) false), []))) fun (r : AV × Blocks) => onNilB (Prod.snd r) (AV.onOwnB (Prod.fst r) fun (l : List UInt8) => chk (room (List.length l + List.length t) (1 : Nat)) (some (AV.bs (l ++ t), []))) := by kernel_rfl

theorem p71 (b t : List UInt8) (hpre : (decide (b.length + t.length ≤ 70368744170000)) = true) : runFn (G.env 71 5) G.rts (G.own 71) Tryz.f71 [.bs b, .bs t] [] = some (.bs (Kerb.putTick b t), []) := by
  rw [r71]
  simp only [decide_eq_true_eq] at hpre
  simp only [onInt_int, onU8_u8, onBool_bool, onStr_str, onBs_bs, onSl_sl, onAgg_agg, onTup_tup, onOwnB_ownB, onOwnL_ownL, onCons_cons, onNil_nil, onNilB_nil, onConsB_cons, chk_true, chk_bind, sel_bind, some_bind, exK_ret, exK_exit, sel_true, sel_false]
  rw [chk_of (by simp; omega), chk_of (Kerb.room_ok (by simp [Kerb.putN_len]; omega))]
  rfl

theorem w71 : Walked Tryz.prog G 71 5 sp71 := by
  refine ⟨Tryz.f71, Tryz.func71, by decide +kernel, rfl, fun xs bl r h => ?_⟩
  unfold sp71 at h
  split at h
  · obtain ⟨h1, h2⟩ := chk_inv h; cases h2; exact p71 _ _ h1
  · cases h

/- kerbsuite/kamessage.putBox -/
theorem r76 (b t : List UInt8) : runFn (G.env 76 5) G.rts (G.own 76) Tryz.f76 [.bs b, .bs t] [] = Option.bind (chk (decide (List.length b ≤ (70368744177664 : Nat))) (some (AV.ownB (b ++ Kerb.putN (↑(List.length t) : Int) (2 : Nat) false), []))) fun (r : AV × Blocks) => onNilB (Prod.snd r) (AV.onOwnB (Prod.fst r) fun (l : List UInt8) => chk (room (List.length l + List.length t) (1 : Nat)) (some (AV.bs (l ++ t), []))) := by kernel_rfl

theorem p76 (b t : List UInt8) (hpre : (decide (b.length + t.length ≤ 70368744170000)) = true) : runFn (G.env 76 5) G.rts (G.own 76) Tryz.f76 [.bs b, .bs t] [] = some (.bs (Kerb.putBox b t), []) := by
  rw [r76]
  simp only [decide_eq_true_eq] at hpre
  simp only [onInt_int, onU8_u8, onBool_bool, onStr_str, onBs_bs, onSl_sl, onAgg_agg, onTup_tup, onOwnB_ownB, onOwnL_ownL, onCons_cons, onNil_nil, onNilB_nil, onConsB_cons, chk_true, chk_bind, sel_bind, some_bind, exK_ret, exK_exit, sel_true, sel_false]
  rw [chk_of (by simp; omega), chk_of (Kerb.room_ok (by simp [Kerb.putN_len]; omega))]
  rfl

theorem w76 : Walked Tryz.prog G 76 5 sp76 := by
  refine ⟨Tryz.f76, Tryz.func76, by decide +kernel, rfl, fun xs bl r h => ?_⟩
  unfold sp76 at h
  split at h
  · obtain ⟨h1, h2⟩ := chk_inv h; cases h2; exact p76 _ _ h1
  · cases h

/- kerbsuite/principal.ValidName -/
theorem r106 (s : List UInt8) : runFn (G.env 106 5) G.rts (G.own 106) Tryz.f106 [.str s] [] = sel (!s == []) (sel (decide ((↑(List.length s) : Int) ≤ (39 : Int))) (Option.bind (chk (decide (List.length s ≤ (4611686018427387904 : Nat))) (some (AV.bool (Kerb.printable s [(46 : UInt8), (64 : UInt8)]), []))) fun (r : AV × Blocks) => onNilB (Prod.snd r) (AV.onBool (Prod.fst r) fun (b : Bool) => some (AV.bool b, []))) (some (AV.bool false, []))) (some (AV.bool false, [])) := by kernel_rfl

theorem p106 (s : List UInt8) (hpre : (decide (s.length ≤ 4611686018427387904)) = true) : runFn (G.env 106 5) G.rts (G.own 106) Tryz.f106 [.str s] [] = some (.bool (Kerb.validName s), []) := by
  rw [r106]
  simp only [onInt_int, onU8_u8, onBool_bool, onStr_str, onBs_bs, onSl_sl, onAgg_agg, onTup_tup, onOwnB_ownB, onOwnL_ownL, onCons_cons, onNil_nil, onNilB_nil, onConsB_cons, chk_true, chk_bind, sel_bind, some_bind, exK_ret, exK_exit, sel_true, sel_false]
  rw [chk_of hpre, decide_eq_decide.2 (show ((s.length : Int) ≤ 39) ↔ s.length ≤ 39 from by omega)]
  simp only [Kerb.validName]
  cases s with
  | nil => rfl
  | cons x r => cases decide ((x :: r).length ≤ 39) <;> rfl

theorem w106 : Walked Tryz.prog G 106 5 sp106 := by
  refine ⟨Tryz.f106, Tryz.func106, by decide +kernel, rfl, fun xs bl r h => ?_⟩
  unfold sp106 at h
  split at h
  · obtain ⟨h1, h2⟩ := chk_inv h; cases h2; exact p106 _ h1
  · cases h

end Go.Proofs.YtbgmiljaiaagdaaGreat