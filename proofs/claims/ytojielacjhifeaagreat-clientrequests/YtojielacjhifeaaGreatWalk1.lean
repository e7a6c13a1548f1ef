/- What the functions of this seat compute. -/
import Derived.Test.YtojielacjhifeaaGreatTab
import Derived.Test.YtojielacjhifeaaGreatKerbPlain
import Derived.Test.YtojielacjhifeaaGreatAbsStep
import Derived.Test.YtojielacjhifeaaGreatKerbCli2
namespace Go.Proofs.YtojielacjhifeaaGreat
open Go Go.Abs Go.Proofs
set_option linter.unusedVariables false
set_option linter.unusedSimpArgs false
set_option maxRecDepth 100000

/- kerbsuite/kerbsuitelaw20.longName -/
theorem r10 (x y z : List UInt8) : runFn (G.env 10 1) G.rts (G.own 10) Tryz.f10 [.agg [.str x, .str y, .str z]] [] = sel (decide ((↑(List.length x) : Int) > (100 : Int))) (some (AV.bool true, [])) (sel (decide ((↑(List.length y) : Int) > (100 : Int))) (some (AV.bool true, [])) (some (AV.bool (decide ((↑(List.length z) : Int) > (100 : Int))), []))) := by kernel_rfl

theorem p10 (x y z : List UInt8) : runFn (G.env 10 1) G.rts (G.own 10) Tryz.f10 [.agg [.str x, .str y, .str z]] [] = some (.bool (Kerb.longP ⟨x, y, z⟩), []) := by
  rw [r10]
  unfold Kerb.longP
  have e : ∀ q : List UInt8, decide ((q.length : Int) > 100) = decide (100 < q.length) := fun q => decide_eq_decide.2 (by omega)
  rw [e, e, e]
  simp only
  cases decide (100 < x.length)
  · cases decide (100 < y.length) <;> rfl
  · rfl

theorem w10 : Walked Tryz.prog G 10 1 sp10 := by
  refine ⟨Tryz.f10, Tryz.func10, by decide +kernel, rfl, fun xs bl r h => ?_⟩
  unfold sp10 at h
  split at h
  · cases h; exact p10 _ _ _
  · cases h

/- kerbsuite/kerbsuiteref15.SameCred -/
theorem r18 (x y z : List UInt8) (k lf kv iss : Int) (tk : List UInt8) (s1 s2 s3 : List UInt8) (sk2 lf2 kv2 is2 : Int) (tk2 : List UInt8) : runFn (G.env 18 1) G.rts (G.own 18) Tryz.f18 [.agg [.str x, .str y, .str z, .int .u64 k, .int .i64 lf, .int .i64 kv, .int .i64 iss, .bs tk], .agg [.str s1, .str s2, .str s3, .int .u64 sk2, .int .i64 lf2, .int .i64 kv2, .int .i64 is2, .bs tk2]] [] = sel (x == s1 && (y == s2 && z == s3)) (sel (k == sk2) (sel (lf == lf2) (sel (kv == kv2) (sel (iss == is2) (some (AV.bool (tk == tk2), [])) (some (AV.bool false, []))) (some (AV.bool false, []))) (some (AV.bool false, []))) (some (AV.bool false, []))) (some (AV.bool false, [])) := by kernel_rfl

theorem p18 (x y z : List UInt8) (k lf kv iss : Int) (tk : List UInt8) (s1 s2 s3 : List UInt8) (sk2 lf2 kv2 is2 : Int) (tk2 : List UInt8) : runFn (G.env 18 1) G.rts (G.own 18) Tryz.f18 [.agg [.str x, .str y, .str z, .int .u64 k, .int .i64 lf, .int .i64 kv, .int .i64 iss, .bs tk], .agg [.str s1, .str s2, .str s3, .int .u64 sk2, .int .i64 lf2, .int .i64 kv2, .int .i64 is2, .bs tk2]] [] = some (.bool ((x == s1 && (y == s2 && z == s3)) && k == sk2 && lf == lf2 && kv == kv2 && iss == is2 && tk == tk2), []) := by
  rw [r18]
  cases (x == s1 && (y == s2 && z == s3))
  · rfl
  cases (k == sk2)
  · rfl
  cases (lf == lf2)
  · rfl
  cases (kv == kv2)
  · rfl
  cases (iss == is2)
  · rfl
  cases (tk == tk2) <;> rfl

theorem w18 : Walked Tryz.prog G 18 1 sp18 := by
  refine ⟨Tryz.f18, Tryz.func18, by decide +kernel, rfl, fun xs bl r h => ?_⟩
  unfold sp18 at h
  split at h
  · cases h; exact p18 _ _ _ _ _ _ _ _ _ _ _ _ _ _ _ _
  · cases h

/- kerbsuite/kerbsuitedata.Session -/
theorem r24 (n : Int) : runFn (G.env 24 1) G.rts (G.own 24) Tryz.f24 [.int .i64 n] [] = some (AV.int IntKind.u64 (IntKind.wrap IntKind.u64 (↑(BitVec.toNat (BitVec.ofInt (IntKind.bits IntKind.u64) (144115188075855872 : Int) ||| BitVec.ofInt (IntKind.bits IntKind.u64) (IntKind.wrap IntKind.u64 (IntKind.wrap IntKind.i64 ((1 : Int) + n))))) : Int)), []) := by kernel_rfl

theorem p24 (n : Int) (hpre : (decide (0 ≤ n) && decide (n ≤ 1000)) = true) : runFn (G.env 24 1) G.rts (G.own 24) Tryz.f24 [.int .i64 n] [] = some (.int .u64 (Kerb.session n), []) := by
  rw [r24]
  rfl

theorem w24 : Walked Tryz.prog G 24 1 sp24 := by
  refine ⟨Tryz.f24, Tryz.func24, by decide +kernel, rfl, fun xs bl r h => ?_⟩
  unfold sp24 at h
  split at h
  · obtain ⟨h1, h2⟩ := chk_inv h; cases h2; exact p24 _ h1
  · cases h

/- kerbsuite/client.upTo -/
theorem r41 (n m : Int) : runFn (G.env 41 1) G.rts (G.own 41) Tryz.f41 [.int .i64 n, .int .i64 m] [] = sel (decide (n ≥ (0 : Int))) (some (AV.bool (decide (n ≤ m)), [])) (some (AV.bool false, [])) := by kernel_rfl

theorem p41 (n m : Int) : runFn (G.env 41 1) G.rts (G.own 41) Tryz.f41 [.int .i64 n, .int .i64 m] [] = some (.bool (Kerb.within n m), []) := by
  rw [r41]
  by_cases h : 0 ≤ n <;> simp [sel, Kerb.within, h]

theorem w41 : Walked Tryz.prog G 41 1 sp41 := by
  refine ⟨Tryz.f41, Tryz.func41, by decide +kernel, rfl, fun xs bl r h => ?_⟩
  unfold sp41 at h
  split at h
  · cases h; exact p41 _ _
  · cases h

/- kerbsuite/principal.Tgs -/
theorem r42 (r t : List UInt8) : runFn (G.env 42 1) G.rts (G.own 42) Tryz.f42 [.str r, .str t] [] = some (AV.agg [AV.str [(107 : UInt8), (114 : UInt8), (98 : UInt8), (116 : UInt8), (103 : UInt8), (116 : UInt8)], AV.str t, AV.str r], []) := by kernel_rfl

theorem p42 (r t : List UInt8) : runFn (G.env 42 1) G.rts (G.own 42) Tryz.f42 [.str r, .str t] [] = some (.agg [.str [107, 114, 98, 116, 103, 116], .str t, .str r], []) := by
  rw [r42]


theorem w42 : Walked Tryz.prog G 42 1 sp42 := by
  refine ⟨Tryz.f42, Tryz.func42, by decide +kernel, rfl, fun xs bl r h => ?_⟩
  unfold sp42 at h
  split at h
  · cases h; exact p42 _ _
  · cases h

/- kerbsuite/client.expect -/
theorem r44 (m1 m2 m3 : List UInt8) (ad sk : Int) (li : Bool) (o1 o2 o3 : List UInt8) (els : List AV) (wt : Int) (w1 w2 w3 : List UInt8) (se tm lf cs tc : Int) (aw : Int) (a1 a2 a3 : List UInt8) (as2 at2 al2 ac2 ak2 : Int) : runFn (G.env 44 1) G.rts (G.own 44) Tryz.f44 [.agg [.str m1, .str m2, .str m3, .int .i64 ad, .int .i64 sk, .bool li, .str o1, .str o2, .str o3, .sl 8 els, .int .i64 wt, .str w1, .str w2, .str w3, .int .u64 se, .int .i64 tm, .int .i64 lf, .int .i64 cs, .int .i64 tc], .agg [.int .i64 aw, .str a1, .str a2, .str a3, .int .u64 as2, .int .i64 at2, .int .i64 al2, .int .i64 ac2, .int .i64 ak2]] [] = some (AV.agg [AV.str m1, AV.str m2, AV.str m3, AV.int IntKind.i64 ad, AV.int IntKind.i64 sk, AV.bool li, AV.str o1, AV.str o2, AV.str o3, AV.sl (8 : Nat) els, AV.int IntKind.i64 aw, AV.str a1, AV.str a2, AV.str a3, AV.int IntKind.u64 as2, AV.int IntKind.i64 at2, AV.int IntKind.i64 al2, AV.int IntKind.i64 ac2, AV.int IntKind.i64 ak2], []) := by kernel_rfl

theorem p44 (m1 m2 m3 : List UInt8) (ad sk : Int) (li : Bool) (o1 o2 o3 : List UInt8) (els : List AV) (wt : Int) (w1 w2 w3 : List UInt8) (se tm lf cs tc : Int) (aw : Int) (a1 a2 a3 : List UInt8) (as2 at2 al2 ac2 ak2 : Int) : runFn (G.env 44 1) G.rts (G.own 44) Tryz.f44 [.agg [.str m1, .str m2, .str m3, .int .i64 ad, .int .i64 sk, .bool li, .str o1, .str o2, .str o3, .sl 8 els, .int .i64 wt, .str w1, .str w2, .str w3, .int .u64 se, .int .i64 tm, .int .i64 lf, .int .i64 cs, .int .i64 tc], .agg [.int .i64 aw, .str a1, .str a2, .str a3, .int .u64 as2, .int .i64 at2, .int .i64 al2, .int .i64 ac2, .int .i64 ak2]] [] = some (.agg [.str m1, .str m2, .str m3, .int .i64 ad, .int .i64 sk, .bool li, .str o1, .str o2, .str o3, .sl 8 els, .int .i64 aw, .str a1, .str a2, .str a3, .int .u64 as2, .int .i64 at2, .int .i64 al2, .int .i64 ac2, .int .i64 ak2], []) := by
  rw [r44]


theorem w44 : Walked Tryz.prog G 44 1 sp44 := by
  refine ⟨Tryz.f44, Tryz.func44, by decide +kernel, rfl, fun xs bl r h => ?_⟩
  unfold sp44 at h
  split at h
  · cases h; exact p44 _ _ _ _ _ _ _ _ _ _ _ _ _ _ _ _ _ _ _ _ _ _ _ _ _ _ _ _
  · cases h

/- kerbsuite/kerbsuiteref20.within -/
theorem r46 (n m : Int) : runFn (G.env 46 1) G.rts (G.own 46) Tryz.f46 [.int .i64 n, .int .i64 m] [] = sel (decide (n ≥ (0 : Int))) (some (AV.bool (decide (n ≤ m)), [])) (some (AV.bool false, [])) := by kernel_rfl

theorem p46 (n m : Int) : runFn (G.env 46 1) G.rts (G.own 46) Tryz.f46 [.int .i64 n, .int .i64 m] [] = some (.bool (Kerb.within n m), []) := by
  rw [r46]
  by_cases h : 0 ≤ n <;> simp [sel, Kerb.within, h]

theorem w46 : Walked Tryz.prog G 46 1 sp46 := by
  refine ⟨Tryz.f46, Tryz.func46, by decide +kernel, rfl, fun xs bl r h => ?_⟩
  unfold sp46 at h
  split at h
  · cases h; exact p46 _ _
  · cases h

/- kerbsuite/kerbsuiteref1.Tgs -/
theorem r47 (r t : List UInt8) : runFn (G.env 47 1) G.rts (G.own 47) Tryz.f47 [.str r, .str t] [] = some (AV.agg [AV.str [(107 : UInt8), (114 : UInt8), (98 : UInt8), (116 : UInt8), (103 : UInt8), (116 : UInt8)], AV.str t, AV.str r], []) := by kernel_rfl

theorem p47 (r t : List UInt8) : runFn (G.env 47 1) G.rts (G.own 47) Tryz.f47 [.str r, .str t] [] = some (.agg [.str [107, 114, 98, 116, 103, 116], .str t, .str r], []) := by
  rw [r47]


theorem w47 : Walked Tryz.prog G 47 1 sp47 := by
  refine ⟨Tryz.f47, Tryz.func47, by decide +kernel, rfl, fun xs bl r h => ?_⟩
  unfold sp47 at h
  split at h
  · cases h; exact p47 _ _
  · cases h

/- kerbsuite/kerbsuiteref20.Idle -/
theorem r49 (m1 m2 m3 : List UInt8) (ad sk : Int) (li : Bool) (o1 o2 o3 : List UInt8) (els : List AV) (wt : Int) (w1 w2 w3 : List UInt8) (se tm lf cs tc : Int) : runFn (G.env 49 1) G.rts (G.own 49) Tryz.f49 [.agg [.str m1, .str m2, .str m3, .int .i64 ad, .int .i64 sk, .bool li, .str o1, .str o2, .str o3, .sl 8 els, .int .i64 wt, .str w1, .str w2, .str w3, .int .u64 se, .int .i64 tm, .int .i64 lf, .int .i64 cs, .int .i64 tc]] [] = some (AV.agg [AV.str m1, AV.str m2, AV.str m3, AV.int IntKind.i64 ad, AV.int IntKind.i64 sk, AV.bool li, AV.str o1, AV.str o2, AV.str o3, AV.sl (8 : Nat) els, AV.int IntKind.i64 (0 : Int), AV.str [], AV.str [], AV.str [], AV.int IntKind.u64 (0 : Int), AV.int IntKind.i64 (0 : Int), AV.int IntKind.i64 (0 : Int), AV.int IntKind.i64 (0 : Int), AV.int IntKind.i64 (0 : Int)], []) := by kernel_rfl

theorem p49 (m1 m2 m3 : List UInt8) (ad sk : Int) (li : Bool) (o1 o2 o3 : List UInt8) (els : List AV) (wt : Int) (w1 w2 w3 : List UInt8) (se tm lf cs tc : Int) : runFn (G.env 49 1) G.rts (G.own 49) Tryz.f49 [.agg [.str m1, .str m2, .str m3, .int .i64 ad, .int .i64 sk, .bool li, .str o1, .str o2, .str o3, .sl 8 els, .int .i64 wt, .str w1, .str w2, .str w3, .int .u64 se, .int .i64 tm, .int .i64 lf, .int .i64 cs, .int .i64 tc]] [] = some (.agg [.str m1, .str m2, .str m3, .int .i64 ad, .int .i64 sk, .bool li, .str o1, .str o2, .str o3, .sl 8 els, .int .i64 0, .str [], .str [], .str [], .int .u64 0, .int .i64 0, .int .i64 0, .int .i64 0, .int .i64 0], []) := by
  rw [r49]


theorem w49 : Walked Tryz.prog G 49 1 sp49 := by
  refine ⟨Tryz.f49, Tryz.func49, by decide +kernel, rfl, fun xs bl r h => ?_⟩
  unfold sp49 at h
  split at h
  · cases h; exact p49 _ _ _ _ _ _ _ _ _ _ _ _ _ _ _ _ _ _ _
  · cases h

/- kerbsuite/client.Ask$1 -/
theorem r50 (e : Int) : runFn (G.env 50 1) G.rts (G.own 50) Tryz.f50 [.int .i64 e] [] = some (AV.tup [AV.agg [AV.str [], AV.str [], AV.str [], AV.int IntKind.i64 (0 : Int), AV.int IntKind.i64 (0 : Int), AV.bool false, AV.str [], AV.str [], AV.str [], AV.sl (8 : Nat) [], AV.int IntKind.i64 (0 : Int), AV.str [], AV.str [], AV.str [], AV.int IntKind.u64 (0 : Int), AV.int IntKind.i64 (0 : Int), AV.int IntKind.i64 (0 : Int), AV.int IntKind.i64 (0 : Int), AV.int IntKind.i64 (0 : Int)], AV.bs [], AV.agg [AV.str [], AV.str [], AV.str [], AV.int IntKind.u64 (0 : Int), AV.int IntKind.i64 (0 : Int), AV.int IntKind.i64 (0 : Int), AV.int IntKind.i64 (0 : Int), AV.bs []], AV.bs [], AV.int IntKind.i64 e], []) := by kernel_rfl

theorem p50 (e : Int) : runFn (G.env 50 1) G.rts (G.own 50) Tryz.f50 [.int .i64 e] [] = some (.tup [.agg [.str [], .str [], .str [], .int .i64 0, .int .i64 0, .bool false, .str [], .str [], .str [], .sl 8 [], .int .i64 0, .str [], .str [], .str [], .int .u64 0, .int .i64 0, .int .i64 0, .int .i64 0, .int .i64 0], .bs [], .agg [.str [], .str [], .str [], .int .u64 0, .int .i64 0, .int .i64 0, .int .i64 0, .bs []], .bs [], .int .i64 e], []) := by
  rw [r50]


theorem w50 : Walked Tryz.prog G 50 1 sp50 := by
  refine ⟨Tryz.f50, Tryz.func50, by decide +kernel, rfl, fun xs bl r h => ?_⟩
  unfold sp50 at h
  split at h
  · cases h; exact p50 _
  · cases h

/- kerbsuite/client.Present$1 -/
theorem r60 (e : Int) : runFn (G.env 60 1) G.rts (G.own 60) Tryz.f60 [.int .i64 e] [] = some (AV.tup [AV.agg [AV.str [], AV.str [], AV.str [], AV.int IntKind.i64 (0 : Int), AV.int IntKind.i64 (0 : Int), AV.bool false, AV.str [], AV.str [], AV.str [], AV.sl (8 : Nat) [], AV.int IntKind.i64 (0 : Int), AV.str [], AV.str [], AV.str [], AV.int IntKind.u64 (0 : Int), AV.int IntKind.i64 (0 : Int), AV.int IntKind.i64 (0 : Int), AV.int IntKind.i64 (0 : Int), AV.int IntKind.i64 (0 : Int)], AV.bs [], AV.agg [AV.str [], AV.str [], AV.str [], AV.int IntKind.u64 (0 : Int), AV.int IntKind.i64 (0 : Int), AV.int IntKind.i64 (0 : Int), AV.int IntKind.i64 (0 : Int), AV.bs []], AV.bs [], AV.int IntKind.i64 e], []) := by kernel_rfl

theorem p60 (e : Int) : runFn (G.env 60 1) G.rts (G.own 60) Tryz.f60 [.int .i64 e] [] = some (.tup [.agg [.str [], .str [], .str [], .int .i64 0, .int .i64 0, .bool false, .str [], .str [], .str [], .sl 8 [], .int .i64 0, .str [], .str [], .str [], .int .u64 0, .int .i64 0, .int .i64 0, .int .i64 0, .int .i64 0], .bs [], .agg [.str [], .str [], .str [], .int .u64 0, .int .i64 0, .int .i64 0, .int .i64 0, .bs []], .bs [], .int .i64 e], []) := by
  rw [r60]


theorem w60 : Walked Tryz.prog G 60 1 sp60 := by
  refine ⟨Tryz.f60, Tryz.func60, by decide +kernel, rfl, fun xs bl r h => ?_⟩
  unfold sp60 at h
  split at h
  · cases h; exact p60 _
  · cases h

/- kerbsuite/kerbsuiteref15.Get -/
theorem r85 (o1 o2 o3 : List UInt8) (els : List AV) (x y z : List UInt8) : runFn (G.env 85 1) G.rts (G.own 85) Tryz.f85 [.agg [.str o1, .str o2, .str o3, .sl 8 els], .agg [.str x, .str y, .str z]] [] = Option.bind (loopM (fun (st : List AV) => onCons st fun (x : AV) (r : List AV) => AV.onStr x fun (b : List UInt8) => onCons r fun (x : AV) (r : List AV) => AV.onStr x fun (b_1 : List UInt8) => onCons r fun (x : AV) (r : List AV) => AV.onStr x fun (b_2 : List UInt8) => onCons r fun (x : AV) (r : List AV) => AV.onSl (8 : Nat) x fun (b_3 : List AV) => onCons r fun (x : AV) (r : List AV) => AV.onStr x fun (b_4 : List UInt8) => onCons r fun (x : AV) (r : List AV) => AV.onStr x fun (b_5 : List UInt8) => onCons r fun (x : AV) (r : List AV) => AV.onStr x fun (b_6 : List UInt8) => onCons r fun (x : AV) (r : List AV) => AV.onStr x fun (b_7 : List UInt8) => onCons r fun (x : AV) (r : List AV) => AV.onStr x fun (b_8 : List UInt8) => onCons r fun (x : AV) (r : List AV) => AV.onStr x fun (b_9 : List UInt8) => onCons r fun (x : AV) (r : List AV) => AV.onInt IntKind.u64 x fun (n : Int) => onCons r fun (x : AV) (r : List AV) => AV.onInt IntKind.i64 x fun (n_1 : Int) => onCons r fun (x : AV) (r : List AV) => AV.onInt IntKind.i64 x fun (n_2 : Int) => onCons r fun (x : AV) (r : List AV) => AV.onInt IntKind.i64 x fun (n_3 : Int) => onCons r fun (x : AV) (r : List AV) => AV.onBs x fun (b_10 : List UInt8) => onCons r fun (x : AV) (r : List AV) => AV.onBool x fun (b_11 : Bool) => onCons r fun (x : AV) (r : List AV) => AV.onInt IntKind.i64 x fun (n_4 : Int) => onNil r (sel (decide (n_4 < (↑(List.length b_3) : Int))) (chk (decide ((0 : Int) ≤ n_4) && decide (n_4 < (↑(List.length b_3) : Int)) && true) (AV.onAgg (List.getD b_3 (Int.toNat n_4) AV.undef) fun (cs : List AV) => onCons cs fun (x : AV) (r : List AV) => AV.onStr x fun (b_12 : List UInt8) => onCons r fun (x : AV) (r : List AV) => AV.onStr x fun (b_13 : List UInt8) => onCons r fun (x : AV) (r : List AV) => AV.onStr x fun (b_14 : List UInt8) => onCons r fun (x : AV) (r : List AV) => AV.onInt IntKind.u64 x fun (n_5 : Int) => onCons r fun (x : AV) (r : List AV) => AV.onInt IntKind.i64 x fun (n_6 : Int) => onCons r fun (x : AV) (r : List AV) => AV.onInt IntKind.i64 x fun (n_7 : Int) => onCons r fun (x : AV) (r : List AV) => AV.onInt IntKind.i64 x fun (n_8 : Int) => onCons r fun (x : AV) (r : List AV) => AV.onBs x fun (b_15 : List UInt8) => onNil r (sel (b_12 == b_4 && (b_13 == b_5 && b_14 == b_6)) (chk (decide ((0 : Int) ≤ n_4) && decide (n_4 < (↑(List.length b_3) : Int)) && true) (AV.onAgg (List.getD b_3 (Int.toNat n_4) AV.undef) fun (cs : List AV) => onCons cs fun (x : AV) (r : List AV) => AV.onStr x fun (b_16 : List UInt8) => onCons r fun (x : AV) (r : List AV) => AV.onStr x fun (b_17 : List UInt8) => onCons r fun (x : AV) (r : List AV) => AV.onStr x fun (b_18 : List UInt8) => onCons r fun (x : AV) (r : List AV) => AV.onInt IntKind.u64 x fun (n : Int) => onCons r fun (x : AV) (r : List AV) => AV.onInt IntKind.i64 x fun (n_9 : Int) => onCons r fun (x : AV) (r : List AV) => AV.onInt IntKind.i64 x fun (n_10 : Int) => onCons r fun (x : AV) (r : List AV) => AV.onInt IntKind.i64 x fun (n_11 : Int) => onCons r fun (x : AV) (r : List AV) => AV.onBs x fun (b_19 : List UInt8) => onNil r (some (Sum.inr (Ex.ret, [AV.str b, AV.str b_1, AV.str b_2, AV.sl (8 : Nat) b_3, AV.str b_4, AV.str b_5, AV.str b_6, AV.str b_16, AV.str b_17, AV.str b_18, AV.int IntKind.u64 n, AV.int IntKind.i64 n_9, AV.int IntKind.i64 n_10, AV.int IntKind.i64 n_11, AV.bs b_19, AV.bool true, AV.int IntKind.i64 n_4]))))) (some (Sum.inl [AV.str b, AV.str b_1, AV.str b_2, AV.sl (8 : Nat) b_3, AV.str b_4, AV.str b_5, AV.str b_6, AV.str b_7, AV.str b_8, AV.str b_9, AV.int IntKind.u64 n, AV.int IntKind.i64 n_1, AV.int IntKind.i64 n_2, AV.int IntKind.i64 n_3, AV.bs b_10, AV.bool b_11, AV.int IntKind.i64 (IntKind.wrap IntKind.i64 (n_4 + (1 : Int)))]))))) (some (Sum.inr (Ex.exit (0 : Nat), [AV.str b, AV.str b_1, AV.str b_2, AV.sl (8 : Nat) b_3, AV.str b_4, AV.str b_5, AV.str b_6, AV.str b_7, AV.str b_8, AV.str b_9, AV.int IntKind.u64 n, AV.int IntKind.i64 n_1, AV.int IntKind.i64 n_2, AV.int IntKind.i64 n_3, AV.bs b_10, AV.bool b_11, AV.int IntKind.i64 n_4]))))) [AV.str o1, AV.str o2, AV.str o3, AV.sl (8 : Nat) els, AV.str x, AV.str y, AV.str z, AV.str [], AV.str [], AV.str [], AV.int IntKind.u64 (0 : Int), AV.int IntKind.i64 (0 : Int), AV.int IntKind.i64 (0 : Int), AV.int IntKind.i64 (0 : Int), AV.bs [], AV.bool false, AV.int IntKind.i64 (0 : Int)]) fun (r : Ex × List AV) => onCons (Prod.snd r) fun (x : AV) (r_1 : List AV) => AV.onStr x fun (b : List UInt8) => onCons r_1 fun (x : AV) (r_2 : List AV) => AV.onStr x fun (b : List UInt8) => onCons r_2 fun (x : AV) (r_3 : List AV) => AV.onStr x fun (b : List UInt8) => onCons r_3 fun (x : AV) (r_4 : List AV) => AV.onSl (8 : Nat) x fun (b : List AV) => onCons r_4 fun (x : AV) (r_5 : List AV) => AV.onStr x fun (b : List UInt8) => onCons r_5 fun (x : AV) (r_6 : List AV) => AV.onStr x fun (b : List UInt8) => onCons r_6 fun (x : AV) (r_7 : List AV) => AV.onStr x fun (b : List UInt8) => onCons r_7 fun (x : AV) (r_8 : List AV) => AV.onStr x fun (b : List UInt8) => onCons r_8 fun (x : AV) (r_9 : List AV) => AV.onStr x fun (b_1 : List UInt8) => onCons r_9 fun (x : AV) (r_10 : List AV) => AV.onStr x fun (b_2 : List UInt8) => onCons r_10 fun (x : AV) (r_11 : List AV) => AV.onInt IntKind.u64 x fun (n : Int) => onCons r_11 fun (x : AV) (r_12 : List AV) => AV.onInt IntKind.i64 x fun (n_1 : Int) => onCons r_12 fun (x : AV) (r_13 : List AV) => AV.onInt IntKind.i64 x fun (n_2 : Int) => onCons r_13 fun (x : AV) (r_14 : List AV) => AV.onInt IntKind.i64 x fun (n_3 : Int) => onCons r_14 fun (x : AV) (r_15 : List AV) => AV.onBs x fun (b_3 : List UInt8) => onCons r_15 fun (x : AV) (r_16 : List AV) => AV.onBool x fun (b_4 : Bool) => onCons r_16 fun (x : AV) (r_17 : List AV) => AV.onInt IntKind.i64 x fun (n_4 : Int) => onNil r_17 (exK r.1 (some (AV.tup [AV.agg [AV.str b, AV.str b_1, AV.str b_2, AV.int IntKind.u64 n, AV.int IntKind.i64 n_1, AV.int IntKind.i64 n_2, AV.int IntKind.i64 n_3, AV.bs b_3], AV.bool b_4], [])) fun (j : Nat) => sel (Nat.beq j (0 : Nat)) (some (AV.tup [AV.agg [AV.str [], AV.str [], AV.str [], AV.int IntKind.u64 (0 : Int), AV.int IntKind.i64 (0 : Int), AV.int IntKind.i64 (0 : Int), AV.int IntKind.i64 (0 : Int), AV.bs []], AV.bool false], [])) none) := by kernel_rfl

theorem p85 (o1 o2 o3 : List UInt8) (els : List AV) (x y z : List UInt8) (hpre : (els.all Kerb.isCred && decide (els.length ≤ 1000000)) = true) : runFn (G.env 85 1) G.rts (G.own 85) Tryz.f85 [.agg [.str o1, .str o2, .str o3, .sl 8 els], .agg [.str x, .str y, .str z]] [] = some (.tup [.agg [.str ((Kerb.getCred (els.map Kerb.toCred) ⟨x, y, z⟩).1).service.name, .str ((Kerb.getCred (els.map Kerb.toCred) ⟨x, y, z⟩).1).service.inst, .str ((Kerb.getCred (els.map Kerb.toCred) ⟨x, y, z⟩).1).service.realm, .int .u64 ((Kerb.getCred (els.map Kerb.toCred) ⟨x, y, z⟩).1).session, .int .i64 ((Kerb.getCred (els.map Kerb.toCred) ⟨x, y, z⟩).1).life, .int .i64 ((Kerb.getCred (els.map Kerb.toCred) ⟨x, y, z⟩).1).kvno, .int .i64 ((Kerb.getCred (els.map Kerb.toCred) ⟨x, y, z⟩).1).issued, .bs ((Kerb.getCred (els.map Kerb.toCred) ⟨x, y, z⟩).1).ticket], .bool (Kerb.getCred (els.map Kerb.toCred) ⟨x, y, z⟩).2], []) := by
  rw [r85]
  simp only [Bool.and_eq_true, decide_eq_true_eq] at hpre
  obtain ⟨hall, hlen⟩ := hpre
  obtain ⟨cs, rfl, hok⟩ := Kerb.creds_of hall
  rw [Kerb.map_toCred]
  simp only [List.length_map] at hlen ⊢
  refine loop_rounds (fun i : Nat => [AV.str o1, AV.str o2, AV.str o3, AV.sl 8 (cs.map Kerb.Cred.av), AV.str x, AV.str y, AV.str z, AV.str [], AV.str [], AV.str [], AV.int IntKind.u64 0, AV.int IntKind.i64 0, AV.int IntKind.i64 0, AV.int IntKind.i64 0, AV.bs [], AV.bool false, AV.int IntKind.i64 (i : Int)]) (fun i => i ≤ cs.length ∧ Kerb.credAt cs ⟨x, y, z⟩ = i + Kerb.credAt (cs.drop i) ⟨x, y, z⟩) (fun i => cs.length - i)
    (fun r => ∃ (i : Nat) (c : Kerb.Cred) (f : Bool), r.2 = [AV.str o1, AV.str o2, AV.str o3, AV.sl 8 (cs.map Kerb.Cred.av), AV.str x, AV.str y, AV.str z, AV.str c.service.name, AV.str c.service.inst, AV.str c.service.realm, AV.int IntKind.u64 c.session, AV.int IntKind.i64 c.life, AV.int IntKind.i64 c.kvno, AV.int IntKind.i64 c.issued, AV.bs c.ticket, AV.bool f, AV.int IntKind.i64 (i : Int)] ∧ ((r.1 = .ret ∧ Kerb.getCred cs ⟨x, y, z⟩ = (c, f)) ∨ (r.1 = .exit 0 ∧ Kerb.getCred cs ⟨x, y, z⟩ = (Kerb.noCred, false)))) 0 ⟨Nat.zero_le _, by simp⟩ rfl ?_ ?_
  · rintro i ⟨hi, hp⟩
    simp only [onInt_int, onU8_u8, onBool_bool, onStr_str, onBs_bs, onSl_sl, onAgg_agg, onTup_tup, onOwnB_ownB, onOwnL_ownL, onCons_cons, onNil_nil, onNilB_nil, onConsB_cons, chk_true, chk_bind, sel_bind, some_bind, exK_ret, exK_exit, sel_true, sel_false]
    by_cases hlt : i < cs.length
    · rw [sel_pos (by simp; omega), chk_of (by simp; omega), Int.toNat_natCast, Kerb.getD_av hlt]
      have hd := Kerb.drop_cred hlt
      obtain ⟨c, hcc⟩ : ∃ c, cs.getD i Kerb.noCred = c := ⟨_, rfl⟩
      rw [hcc] at hd ⊢
      simp only [Kerb.Cred.av, onInt_int, onU8_u8, onBool_bool, onStr_str, onBs_bs, onSl_sl, onAgg_agg, onTup_tup, onOwnB_ownB, onOwnL_ownL, onCons_cons, onNil_nil, onNilB_nil, onConsB_cons, chk_true, chk_bind, sel_bind, some_bind, exK_ret, exK_exit, sel_true, sel_false]
      show ∃ q, sel (Kerb.Prin.eqb c.service ⟨x, y, z⟩) _ _ = some q ∧ _
      cases he : Kerb.Prin.eqb c.service ⟨x, y, z⟩
      · rw [sel_false, wrap_i64 (by omega) (by omega)]
        refine ⟨_, rfl, i + 1, rfl, ⟨by omega, ?_⟩, by dsimp only; omega⟩
        rw [hp, hd]
        simp only [Kerb.credAt, List.findIdx_cons, he, cond_false]
        omega
      · rw [sel_true, chk_of (by simp; omega)]
        refine ⟨_, rfl, i, c, true, rfl, .inl ⟨rfl, ?_⟩⟩
        have hq : Kerb.credAt cs ⟨x, y, z⟩ = i := by
          rw [hp, hd]
          simp only [Kerb.credAt, List.findIdx_cons, he, cond_true]
          omega
        unfold Kerb.getCred
        rw [hq, if_pos hlt, hcc]
    · rw [sel_neg (by simp; omega)]
      refine ⟨_, rfl, i, Kerb.noCred, false, rfl, .inr ⟨rfl, ?_⟩⟩
      have hq : Kerb.credAt cs ⟨x, y, z⟩ = cs.length := by
        rw [hp, List.drop_eq_nil_of_le (by omega)]
        simp [Kerb.credAt]; omega
      unfold Kerb.getCred
      rw [hq, if_neg (by omega)]
  · rintro ⟨e, l⟩ ⟨i, c, f, rfl, ⟨rfl, h⟩ | ⟨rfl, h⟩⟩
    · simp only [onInt_int, onU8_u8, onBool_bool, onStr_str, onBs_bs, onSl_sl, onAgg_agg, onTup_tup, onOwnB_ownB, onOwnL_ownL, onCons_cons, onNil_nil, onNilB_nil, onConsB_cons, chk_true, chk_bind, sel_bind, some_bind, exK_ret, exK_exit, sel_true, sel_false, h]
    · simp only [onInt_int, onU8_u8, onBool_bool, onStr_str, onBs_bs, onSl_sl, onAgg_agg, onTup_tup, onOwnB_ownB, onOwnL_ownL, onCons_cons, onNil_nil, onNilB_nil, onConsB_cons, chk_true, chk_bind, sel_bind, some_bind, exK_ret, exK_exit, sel_true, sel_false, h]
      rw [sel_pos (Nat.beq_refl _)]
      rfl

theorem w85 : Walked Tryz.prog G 85 1 sp85 := by
  refine ⟨Tryz.f85, Tryz.func85, by decide +kernel, rfl, fun xs bl r h => ?_⟩
  unfold sp85 at h
  split at h
  · obtain ⟨h1, h2⟩ := chk_inv h; cases h2; exact p85 _ _ _ _ _ _ _ h1
  · cases h

/- (*kerbsuite/kerbsuitedata.Source).More -/
theorem r91 (l : List UInt8) (pos : Int) : runFn (G.env 91 1) G.rts (G.own 91) Tryz.f91 [.ptr 0 0] [(0, [.bs l, .int .i64 pos])] = some (AV.bool (decide (pos < (↑(List.length l) : Int))), [[AV.bs l, AV.int IntKind.i64 pos]]) := by kernel_rfl

theorem p91 (l : List UInt8) (pos : Int) : runFn (G.env 91 1) G.rts (G.own 91) Tryz.f91 [.ptr 0 0] [(0, [.bs l, .int .i64 pos])] = some (.bool (decide (pos < (l.length : Int))), [[.bs l, .int .i64 pos]]) := by
  rw [r91]


theorem w91 : Walked Tryz.prog G 91 1 sp91 := by
  refine ⟨Tryz.f91, Tryz.func91, by decide +kernel, rfl, fun xs bl r h => ?_⟩
  unfold sp91 at h
  split at h
  · cases h; exact p91 _ _
  · cases h

/- kerbsuite/kerbsuitedata.Realms -/
theorem r93  : runFn (G.env 93 1) G.rts (G.own 93) Tryz.f93 [] [] = some (AV.sl (1 : Nat) [AV.str [(65 : UInt8), (84 : UInt8), (72 : UInt8)], AV.str [(66 : UInt8), (79 : UInt8), (83 : UInt8)], AV.str [(67 : UInt8), (65 : UInt8), (77 : UInt8)]], []) := by kernel_rfl

theorem p93  : runFn (G.env 93 1) G.rts (G.own 93) Tryz.f93 [] [] = some (.sl 1 [.str [65, 84, 72], .str [66, 79, 83], .str [67, 65, 77]], []) := by
  rw [r93]


theorem w93 : Walked Tryz.prog G 93 1 sp93 := by
  refine ⟨Tryz.f93, Tryz.func93, by decide +kernel, rfl, fun xs bl r h => ?_⟩
  unfold sp93 at h
  split at h
  · cases h; exact p93 
  · cases h

/- kerbsuite/kdcmessage.within -/
theorem r96 (n m : Int) : runFn (G.env 96 1) G.rts (G.own 96) Tryz.f96 [.int .i64 n, .int .i64 m] [] = sel (decide (n ≥ (0 : Int))) (some (AV.bool (decide (n ≤ m)), [])) (some (AV.bool false, [])) := by kernel_rfl

theorem p96 (n m : Int) : runFn (G.env 96 1) G.rts (G.own 96) Tryz.f96 [.int .i64 n, .int .i64 m] [] = some (.bool (Kerb.within n m), []) := by
  rw [r96]
  by_cases h : 0 ≤ n <;> simp [sel, Kerb.within, h]

theorem w96 : Walked Tryz.prog G 96 1 sp96 := by
  refine ⟨Tryz.f96, Tryz.func96, by decide +kernel, rfl, fun xs bl r h => ?_⟩
  unfold sp96 at h
  split at h
  · cases h; exact p96 _ _
  · cases h

/- kerbsuite/kerbsuiteref9.within -/
theorem r104 (n m : Int) : runFn (G.env 104 1) G.rts (G.own 104) Tryz.f104 [.int .i64 n, .int .i64 m] [] = sel (decide (n ≥ (0 : Int))) (some (AV.bool (decide (n ≤ m)), [])) (some (AV.bool false, [])) := by kernel_rfl

theorem p104 (n m : Int) : runFn (G.env 104 1) G.rts (G.own 104) Tryz.f104 [.int .i64 n, .int .i64 m] [] = some (.bool (Kerb.within n m), []) := by
  rw [r104]
  by_cases h : 0 ≤ n <;> simp [sel, Kerb.within, h]

theorem w104 : Walked Tryz.prog G 104 1 sp104 := by
  refine ⟨Tryz.f104, Tryz.func104, by decide +kernel, rfl, fun xs bl r h => ?_⟩
  unfold sp104 at h
  split at h
  · cases h; exact p104 _ _
  · cases h

/- kerbsuite/kerbsuiteref8.Put -/
theorem r106 (k : Int) (little : Bool) : runFn (G.env 106 1) G.rts (G.own 106) Tryz.f106 [.int .i64 k, .bool little] [] = sel (decide (k < (1 : Int))) (some (AV.bs [], [])) (sel (decide (k > (10 : Int))) (some (AV.bs [], [])) (sel little (some (AV.bs [(4 : UInt8), UInt8.ofNat (Int.toNat (IntKind.wrap IntKind.u8 (IntKind.wrap IntKind.i64 (IntKind.wrap IntKind.i64 ((2 : Int) * k) + (1 : Int)))))], [])) (some (AV.bs [(4 : UInt8), UInt8.ofNat (Int.toNat (IntKind.wrap IntKind.u8 (IntKind.wrap IntKind.i64 ((2 : Int) * k))))], [])))) := by kernel_rfl

theorem p106 (k : Int) (little : Bool) : runFn (G.env 106 1) G.rts (G.own 106) Tryz.f106 [.int .i64 k, .bool little] [] = some (.bs (Kerb.header k little), []) := by
  rw [r106]
  by_cases h : 1 ≤ k ∧ k ≤ 10
  · have hk : k = 1 ∨ k = 2 ∨ k = 3 ∨ k = 4 ∨ k = 5 ∨ k = 6 ∨ k = 7 ∨ k = 8 ∨ k = 9 ∨ k = 10 := by omega
    rcases hk with rfl | rfl | rfl | rfl | rfl | rfl | rfl | rfl | rfl | rfl <;> cases little <;> rfl
  · have hk : Kerb.isKind k = false := by simp [Kerb.isKind]; omega
    by_cases h1 : k < 1
    · simp [sel, Kerb.header, hk, h1]
    · have h2 : 10 < k := by omega
      simp [sel, Kerb.header, hk, h1, h2]

theorem w106 : Walked Tryz.prog G 106 1 sp106 := by
  refine ⟨Tryz.f106, Tryz.func106, by decide +kernel, rfl, fun xs bl r h => ?_⟩
  unfold sp106 at h
  split at h
  · cases h; exact p106 _ _
  · cases h

/- kerbsuite/kerbsuiteref5.PutText -/
theorem r109 (b s : List UInt8) : runFn (G.env 109 1) G.rts (G.own 109) Tryz.f109 [.bs b, .str s] [] = chk (room (List.length b) (1 : Nat)) (chk (room (List.length b + List.length s) (1 : Nat)) (chk (room (List.length (b ++ s) + List.length [(0 : UInt8)]) (1 : Nat)) (some (AV.bs (b ++ s ++ [(0 : UInt8)]), [])))) := by kernel_rfl

theorem p109 (b s : List UInt8) (hpre : (decide (b.length + s.length ≤ 70368744177664)) = true) : runFn (G.env 109 1) G.rts (G.own 109) Tryz.f109 [.bs b, .str s] [] = some (.bs (Kerb.putText b s), []) := by
  rw [r109]
  simp only [decide_eq_true_eq] at hpre
  rw [chk_of (Kerb.room_ok (by omega)), chk_of (Kerb.room_ok (by omega)), chk_of (Kerb.room_ok (by simp; omega))]
  simp [Kerb.putText]

theorem w109 : Walked Tryz.prog G 109 1 sp109 := by
  refine ⟨Tryz.f109, Tryz.func109, by decide +kernel, rfl, fun xs bl r h => ?_⟩
  unfold sp109 at h
  split at h
  · obtain ⟨h1, h2⟩ := chk_inv h; cases h2; exact p109 _ _ h1
  · cases h

/- kerbsuite/appmessage.within -/
theorem r114 (n m : Int) : runFn (G.env 114 1) G.rts (G.own 114) Tryz.f114 [.int .i64 n, .int .i64 m] [] = sel (decide (n ≥ (0 : Int))) (some (AV.bool (decide (n ≤ m)), [])) (some (AV.bool false, [])) := by kernel_rfl

theorem p114 (n m : Int) : runFn (G.env 114 1) G.rts (G.own 114) Tryz.f114 [.int .i64 n, .int .i64 m] [] = some (.bool (Kerb.within n m), []) := by
  rw [r114]
  by_cases h : 0 ≤ n <;> simp [sel, Kerb.within, h]

theorem w114 : Walked Tryz.prog G 114 1 sp114 := by
  refine ⟨Tryz.f114, Tryz.func114, by decide +kernel, rfl, fun xs bl r h => ?_⟩
  unfold sp114 at h
  split at h
  · cases h; exact p114 _ _
  · cases h

/- kerbsuite/kerbsuiteref10.within -/
theorem r118 (n m : Int) : runFn (G.env 118 1) G.rts (G.own 118) Tryz.f118 [.int .i64 n, .int .i64 m] [] = sel (decide (n ≥ (0 : Int))) (some (AV.bool (decide (n ≤ m)), [])) (some (AV.bool false, [])) := by kernel_rfl

theorem p118 (n m : Int) : runFn (G.env 118 1) G.rts (G.own 118) Tryz.f118 [.int .i64 n, .int .i64 m] [] = some (.bool (Kerb.within n m), []) := by
  rw [r118]
  by_cases h : 0 ≤ n <;> simp [sel, Kerb.within, h]

theorem w118 : Walked Tryz.prog G 118 1 sp118 := by
  refine ⟨Tryz.f118, Tryz.func118, by decide +kernel, rfl, fun xs bl r h => ?_⟩
  unfold sp118 at h
  split at h
  · cases h; exact p118 _ _
  · cases h

/- kerbsuite/kerbsuiteref15.within -/
theorem r128 (n m : Int) : runFn (G.env 128 1) G.rts (G.own 128) Tryz.f128 [.int .i64 n, .int .i64 m] [] = sel (decide (n ≥ (0 : Int))) (some (AV.bool (decide (n ≤ m)), [])) (some (AV.bool false, [])) := by kernel_rfl

theorem p128 (n m : Int) : runFn (G.env 128 1) G.rts (G.own 128) Tryz.f128 [.int .i64 n, .int .i64 m] [] = some (.bool (Kerb.within n m), []) := by
  rw [r128]
  by_cases h : 0 ≤ n <;> simp [sel, Kerb.within, h]

theorem w128 : Walked Tryz.prog G 128 1 sp128 := by
  refine ⟨Tryz.f128, Tryz.func128, by decide +kernel, rfl, fun xs bl r h => ?_⟩
  unfold sp128 at h
  split at h
  · cases h; exact p128 _ _
  · cases h

/- kerbsuite/kerbsuiteref5.Pad -/
theorem r130 (b : List UInt8) : runFn (G.env 130 1) G.rts (G.own 130) Tryz.f130 [.bs b] [] = chk (room (List.length b) (1 : Nat)) (Option.bind (loopM (fun (st : List AV) => onCons st fun (x : AV) (r : List AV) => AV.onOwnB x fun (b : List UInt8) => onNil r (sel (!Int.tmod (↑(List.length b) : Int) (8 : Int) == (0 : Int)) (chk (room (List.length b + List.length [(0 : UInt8)]) (1 : Nat)) (some (Sum.inl [AV.ownB (b ++ [(0 : UInt8)])]))) (some (Sum.inr (Ex.exit (0 : Nat), [AV.ownB b]))))) [AV.ownB b]) fun (r : Ex × List AV) => onCons (Prod.snd r) fun (x : AV) (r_1 : List AV) => AV.onOwnB x fun (b : List UInt8) => onNil r_1 (exK r.1 none fun (j : Nat) => sel (Nat.beq j (0 : Nat)) (some (AV.bs b, [])) none)) := by kernel_rfl

theorem p130 (b : List UInt8) (hpre : (decide (b.length ≤ 70368744177664)) = true) : runFn (G.env 130 1) G.rts (G.own 130) Tryz.f130 [.bs b] [] = some (.bs (Kerb.pad b), []) := by
  rw [r130]
  have hb := of_decide_eq_true hpre
  rw [chk_of (Kerb.room_ok (by omega))]
  refine loop_rounds (fun i : Nat => [AV.ownB (b ++ List.replicate i 0)]) (fun i => i ≤ (8 - b.length % 8) % 8) (fun i => (8 - b.length % 8) % 8 - i)
    (fun r => r = (Ex.exit 0, [AV.ownB (Kerb.pad b)])) 0 (by omega) (by simp) ?_ ?_
  · intro i hi
    simp only [onInt_int, onU8_u8, onBool_bool, onStr_str, onBs_bs, onSl_sl, onAgg_agg, onTup_tup, onOwnB_ownB, onOwnL_ownL, onCons_cons, onNil_nil, onNilB_nil, onConsB_cons, chk_true, chk_bind, sel_bind, some_bind, exK_ret, exK_exit, sel_true, sel_false]
    have e : Int.tmod ((b ++ List.replicate i 0).length : Int) 8 = (((b.length + i) % 8 : Nat) : Int) := by
      rw [Int.tmod_eq_emod_of_nonneg (by omega)]
      simp
    rw [e]
    by_cases hlt : i < (8 - b.length % 8) % 8
    · rw [sel_pos (by simp; omega), chk_of (Kerb.room_ok (by simp; omega))]
      refine ⟨_, rfl, i + 1, ?_, by omega, by dsimp only; omega⟩
      dsimp only
      rw [List.replicate_succ', List.append_assoc]
    · rw [sel_neg (by simp; omega)]
      refine ⟨_, rfl, ?_⟩
      show _ = _
      rw [Kerb.pad, show i = (8 - b.length % 8) % 8 from by omega]
  rintro r rfl
  simp only [onInt_int, onU8_u8, onBool_bool, onStr_str, onBs_bs, onSl_sl, onAgg_agg, onTup_tup, onOwnB_ownB, onOwnL_ownL, onCons_cons, onNil_nil, onNilB_nil, onConsB_cons, chk_true, chk_bind, sel_bind, some_bind, exK_ret, exK_exit, sel_true, sel_false]
  rw [sel_pos (Nat.beq_refl _)]

theorem w130 : Walked Tryz.prog G 130 1 sp130 := by
  refine ⟨Tryz.f130, Tryz.func130, by decide +kernel, rfl, fun xs bl r h => ?_⟩
  unfold sp130 at h
  split at h
  · obtain ⟨h1, h2⟩ := chk_inv h; cases h2; exact p130 _ h1
  · cases h

/- kerbsuite/kerbsuiteref3.Bytes -/
theorem r131 (k : Int) : runFn (G.env 131 1) G.rts (G.own 131) Tryz.f131 [.int .u64 k] [] = Option.bind (loopM (fun (st : List AV) => onCons st fun (x : AV) (r : List AV) => AV.onInt IntKind.u64 x fun (n : Int) => onCons r fun (x : AV) (r : List AV) => AV.onOwnB x fun (b : List UInt8) => onCons r fun (x : AV) (r : List AV) => AV.onInt IntKind.i64 x fun (n_1 : Int) => onNil r (sel (decide (n_1 ≥ (0 : Int))) (chk (decide ((0 : Int) ≤ IntKind.wrap IntKind.u64 (IntKind.wrap IntKind.i64 ((8 : Int) * n_1)))) (chk (room (List.length b + List.length [UInt8.ofNat (Int.toNat (IntKind.wrap IntKind.u8 (Int.fdiv n ((2 : Int) ^ min (Int.toNat (IntKind.wrap IntKind.u64 (IntKind.wrap IntKind.i64 ((8 : Int) * n_1)))) (IntKind.bits IntKind.u64)))))]) (1 : Nat)) (some (Sum.inl [AV.int IntKind.u64 n, AV.ownB (b ++ [UInt8.ofNat (Int.toNat (IntKind.wrap IntKind.u8 (Int.fdiv n ((2 : Int) ^ min (Int.toNat (IntKind.wrap IntKind.u64 (IntKind.wrap IntKind.i64 ((8 : Int) * n_1)))) (IntKind.bits IntKind.u64)))))]), AV.int IntKind.i64 (IntKind.wrap IntKind.i64 (n_1 - (1 : Int)))])))) (some (Sum.inr (Ex.exit (0 : Nat), [AV.int IntKind.u64 n, AV.ownB b, AV.int IntKind.i64 n_1]))))) [AV.int IntKind.u64 k, AV.ownB [], AV.int IntKind.i64 (7 : Int)]) fun (r : Ex × List AV) => onCons (Prod.snd r) fun (x : AV) (r_1 : List AV) => AV.onInt IntKind.u64 x fun (n : Int) => onCons r_1 fun (x : AV) (r_2 : List AV) => AV.onOwnB x fun (b : List UInt8) => onCons r_2 fun (x : AV) (r_3 : List AV) => AV.onInt IntKind.i64 x fun (n : Int) => onNil r_3 (exK r.1 none fun (j : Nat) => sel (Nat.beq j (0 : Nat)) (some (AV.bs b, [])) none) := by kernel_rfl

theorem p131 (k : Int) (hpre : (decide (0 ≤ k) && decide (k < 18446744073709551616)) = true) : runFn (G.env 131 1) G.rts (G.own 131) Tryz.f131 [.int .u64 k] [] = some (.bs (Kerb.keyBytes k), []) := by
  rw [r131]
  refine loop_unroll 9 (Ex.exit 0, [AV.int IntKind.u64 k, AV.ownB [Kerb.bfd k 56, Kerb.bfd k 48, Kerb.bfd k 40, Kerb.bfd k 32, Kerb.bfd k 24, Kerb.bfd k 16, Kerb.bfd k 8, Kerb.bfd k 0], AV.int IntKind.i64 (-1)]) (by kernel_rfl) ?_
  simp only [onInt_int, onU8_u8, onBool_bool, onStr_str, onBs_bs, onSl_sl, onAgg_agg, onTup_tup, onOwnB_ownB, onOwnL_ownL, onCons_cons, onNil_nil, onNilB_nil, onConsB_cons, chk_true, chk_bind, sel_bind, some_bind, exK_ret, exK_exit, sel_true, sel_false]
  rw [sel_pos (Nat.beq_refl _)]
  simp [Kerb.bfd_eq, Kerb.keyBytes, Kerb.byteAt, List.range_succ]

theorem w131 : Walked Tryz.prog G 131 1 sp131 := by
  refine ⟨Tryz.f131, Tryz.func131, by decide +kernel, rfl, fun xs bl r h => ?_⟩
  unfold sp131 at h
  split at h
  · obtain ⟨h1, h2⟩ := chk_inv h; cases h2; exact p131 _ h1
  · cases h

/- kerbsuite/lifetime.isTime -/
theorem r150 (n : Int) : runFn (G.env 150 1) G.rts (G.own 150) Tryz.f150 [.int .i64 n] [] = sel (decide (n ≥ (0 : Int))) (some (AV.bool (decide (n ≤ (4294967295 : Int))), [])) (some (AV.bool false, [])) := by kernel_rfl

theorem p150 (n : Int) : runFn (G.env 150 1) G.rts (G.own 150) Tryz.f150 [.int .i64 n] [] = some (.bool (Kerb.within n 4294967295), []) := by
  rw [r150]
  by_cases h : 0 ≤ n <;> simp [sel, Kerb.within, h]

theorem w150 : Walked Tryz.prog G 150 1 sp150 := by
  refine ⟨Tryz.f150, Tryz.func150, by decide +kernel, rfl, fun xs bl r h => ?_⟩
  unfold sp150 at h
  split at h
  · cases h; exact p150 _
  · cases h

/- kerbsuite/kerbsuiteref2.time -/
theorem r153 (n : Int) : runFn (G.env 153 1) G.rts (G.own 153) Tryz.f153 [.int .i64 n] [] = sel (decide (n ≥ (0 : Int))) (some (AV.bool (decide (n ≤ (4294967295 : Int))), [])) (some (AV.bool false, [])) := by kernel_rfl

theorem p153 (n : Int) : runFn (G.env 153 1) G.rts (G.own 153) Tryz.f153 [.int .i64 n] [] = some (.bool (Kerb.within n 4294967295), []) := by
  rw [r153]
  by_cases h : 0 ≤ n <;> simp [sel, Kerb.within, h]

theorem w153 : Walked Tryz.prog G 153 1 sp153 := by
  refine ⟨Tryz.f153, Tryz.func153, by decide +kernel, rfl, fun xs bl r h => ?_⟩
  unfold sp153 at h
  split at h
  · cases h; exact p153 _
  · cases h

/- kerbsuite/ccache.within -/
theorem r155 (n m : Int) : runFn (G.env 155 1) G.rts (G.own 155) Tryz.f155 [.int .i64 n, .int .i64 m] [] = sel (decide (n ≥ (0 : Int))) (some (AV.bool (decide (n ≤ m)), [])) (some (AV.bool false, [])) := by kernel_rfl

theorem p155 (n m : Int) : runFn (G.env 155 1) G.rts (G.own 155) Tryz.f155 [.int .i64 n, .int .i64 m] [] = some (.bool (Kerb.within n m), []) := by
  rw [r155]
  by_cases h : 0 ≤ n <;> simp [sel, Kerb.within, h]

theorem w155 : Walked Tryz.prog G 155 1 sp155 := by
  refine ⟨Tryz.f155, Tryz.func155, by decide +kernel, rfl, fun xs bl r h => ?_⟩
  unfold sp155 at h
  split at h
  · cases h; exact p155 _ _
  · cases h

/- kerbsuite/ccache.search -/
theorem r156 (els : List AV) (x y z : List UInt8) : runFn (G.env 156 1) G.rts (G.own 156) Tryz.f156 [.sl 8 els, .agg [.str x, .str y, .str z]] [] = Option.bind (loopM (fun (st : List AV) => onCons st fun (x : AV) (r : List AV) => AV.onSl (8 : Nat) x fun (b : List AV) => onCons r fun (x : AV) (r : List AV) => AV.onStr x fun (b_1 : List UInt8) => onCons r fun (x : AV) (r : List AV) => AV.onStr x fun (b_2 : List UInt8) => onCons r fun (x : AV) (r : List AV) => AV.onStr x fun (b_3 : List UInt8) => onCons r fun (x : AV) (r : List AV) => AV.onInt IntKind.i64 x fun (n : Int) => onCons r fun (x : AV) (r : List AV) => AV.onSl (8 : Nat) x fun (b_4 : List AV) => onCons r fun (x : AV) (r : List AV) => AV.onInt IntKind.i64 x fun (n_1 : Int) => onCons r fun (x : AV) (r : List AV) => AV.onInt IntKind.i64 x fun (n_2 : Int) => onNil r (sel (decide (n_2 < n_1)) (chk (decide ((0 : Int) ≤ n_2) && decide (n_2 < (↑(List.length b_4) : Int)) && true) (AV.onAgg (List.getD b_4 (Int.toNat n_2) AV.undef) fun (cs : List AV) => onCons cs fun (x : AV) (r : List AV) => AV.onStr x fun (b_5 : List UInt8) => onCons r fun (x : AV) (r : List AV) => AV.onStr x fun (b_6 : List UInt8) => onCons r fun (x : AV) (r : List AV) => AV.onStr x fun (b_7 : List UInt8) => onCons r fun (x : AV) (r : List AV) => AV.onInt IntKind.u64 x fun (n_3 : Int) => onCons r fun (x : AV) (r : List AV) => AV.onInt IntKind.i64 x fun (n_4 : Int) => onCons r fun (x : AV) (r : List AV) => AV.onInt IntKind.i64 x fun (n_5 : Int) => onCons r fun (x : AV) (r : List AV) => AV.onInt IntKind.i64 x fun (n_6 : Int) => onCons r fun (x : AV) (r : List AV) => AV.onBs x fun (b_8 : List UInt8) => onNil r (sel (b_5 == b_1 && (b_6 == b_2 && b_7 == b_3)) (some (Sum.inr (Ex.ret, [AV.sl (8 : Nat) b, AV.str b_1, AV.str b_2, AV.str b_3, AV.int IntKind.i64 n_2, AV.sl (8 : Nat) b_4, AV.int IntKind.i64 n_1, AV.int IntKind.i64 n_2]))) (some (Sum.inl [AV.sl (8 : Nat) b, AV.str b_1, AV.str b_2, AV.str b_3, AV.int IntKind.i64 n, AV.sl (8 : Nat) b_4, AV.int IntKind.i64 n_1, AV.int IntKind.i64 (IntKind.wrap IntKind.i64 (n_2 + (1 : Int)))]))))) (some (Sum.inr (Ex.exit (0 : Nat), [AV.sl (8 : Nat) b, AV.str b_1, AV.str b_2, AV.str b_3, AV.int IntKind.i64 n, AV.sl (8 : Nat) b_4, AV.int IntKind.i64 n_1, AV.int IntKind.i64 n_2]))))) [AV.sl (8 : Nat) els, AV.str x, AV.str y, AV.str z, AV.int IntKind.i64 (0 : Int), AV.sl (8 : Nat) els, AV.int IntKind.i64 (↑(List.length els) : Int), AV.int IntKind.i64 (0 : Int)]) fun (r : Ex × List AV) => onCons (Prod.snd r) fun (x : AV) (r_1 : List AV) => AV.onSl (8 : Nat) x fun (b : List AV) => onCons r_1 fun (x : AV) (r_2 : List AV) => AV.onStr x fun (b_1 : List UInt8) => onCons r_2 fun (x : AV) (r_3 : List AV) => AV.onStr x fun (b_2 : List UInt8) => onCons r_3 fun (x : AV) (r_4 : List AV) => AV.onStr x fun (b_3 : List UInt8) => onCons r_4 fun (x : AV) (r_5 : List AV) => AV.onInt IntKind.i64 x fun (n : Int) => onCons r_5 fun (x : AV) (r_6 : List AV) => AV.onSl (8 : Nat) x fun (b_4 : List AV) => onCons r_6 fun (x : AV) (r_7 : List AV) => AV.onInt IntKind.i64 x fun (n_1 : Int) => onCons r_7 fun (x : AV) (r_8 : List AV) => AV.onInt IntKind.i64 x fun (n_2 : Int) => onNil r_8 (exK r.1 (some (AV.int IntKind.i64 n, [])) fun (j : Nat) => sel (Nat.beq j (0 : Nat)) (some (AV.int IntKind.i64 (↑(List.length b) : Int), [])) none) := by kernel_rfl

theorem p156 (els : List AV) (x y z : List UInt8) (hpre : (els.all Kerb.isCred && decide (els.length ≤ 1000000)) = true) : runFn (G.env 156 1) G.rts (G.own 156) Tryz.f156 [.sl 8 els, .agg [.str x, .str y, .str z]] [] = some (.int .i64 ((Kerb.credAt (els.map Kerb.toCred) ⟨x, y, z⟩ : Nat) : Int), []) := by
  rw [r156]
  simp only [Bool.and_eq_true, decide_eq_true_eq] at hpre
  obtain ⟨hall, hlen⟩ := hpre
  obtain ⟨cs, rfl, hok⟩ := Kerb.creds_of hall
  rw [Kerb.map_toCred]
  simp only [List.length_map] at hlen ⊢
  refine loop_rounds (fun i : Nat => [AV.sl 8 (cs.map Kerb.Cred.av), AV.str x, AV.str y, AV.str z, AV.int IntKind.i64 0, AV.sl 8 (cs.map Kerb.Cred.av), AV.int IntKind.i64 (cs.length : Int), AV.int IntKind.i64 (i : Int)]) (fun i => i ≤ cs.length ∧ Kerb.credAt cs ⟨x, y, z⟩ = i + Kerb.credAt (cs.drop i) ⟨x, y, z⟩) (fun i => cs.length - i)
    (fun r => ∃ (i : Nat) (n : Int), r.2 = [AV.sl 8 (cs.map Kerb.Cred.av), AV.str x, AV.str y, AV.str z, AV.int IntKind.i64 n, AV.sl 8 (cs.map Kerb.Cred.av), AV.int IntKind.i64 (cs.length : Int), AV.int IntKind.i64 (i : Int)] ∧ ((r.1 = .ret ∧ n = (Kerb.credAt cs ⟨x, y, z⟩ : Nat)) ∨ (r.1 = .exit 0 ∧ Kerb.credAt cs ⟨x, y, z⟩ = cs.length))) 0 ⟨Nat.zero_le _, by simp⟩ rfl ?_ ?_
  · rintro i ⟨hi, hp⟩
    simp only [onInt_int, onU8_u8, onBool_bool, onStr_str, onBs_bs, onSl_sl, onAgg_agg, onTup_tup, onOwnB_ownB, onOwnL_ownL, onCons_cons, onNil_nil, onNilB_nil, onConsB_cons, chk_true, chk_bind, sel_bind, some_bind, exK_ret, exK_exit, sel_true, sel_false]
    by_cases hlt : i < cs.length
    · rw [sel_pos (by simp; omega), chk_of (by simp; omega), Int.toNat_natCast, Kerb.getD_av hlt]
      have hd := Kerb.drop_cred hlt
      generalize cs.getD i Kerb.noCred = c at hd
      simp only [Kerb.Cred.av, onInt_int, onU8_u8, onBool_bool, onStr_str, onBs_bs, onSl_sl, onAgg_agg, onTup_tup, onOwnB_ownB, onOwnL_ownL, onCons_cons, onNil_nil, onNilB_nil, onConsB_cons, chk_true, chk_bind, sel_bind, some_bind, exK_ret, exK_exit, sel_true, sel_false]
      show ∃ q, sel (Kerb.Prin.eqb c.service ⟨x, y, z⟩) _ _ = some q ∧ _
      cases he : Kerb.Prin.eqb c.service ⟨x, y, z⟩
      · rw [sel_false, wrap_i64 (by omega) (by omega)]
        refine ⟨_, rfl, i + 1, rfl, ⟨by omega, ?_⟩, by dsimp only; omega⟩
        rw [hp, hd]
        simp only [Kerb.credAt, List.findIdx_cons, he, cond_false]
        omega
      · rw [sel_true]
        refine ⟨_, rfl, i, _, rfl, .inl ⟨rfl, ?_⟩⟩
        rw [hp, hd]
        simp only [Kerb.credAt, List.findIdx_cons, he, cond_true]
        omega
    · rw [sel_neg (by simp; omega)]
      refine ⟨_, rfl, i, _, rfl, .inr ⟨rfl, ?_⟩⟩
      rw [hp, List.drop_eq_nil_of_le (by omega)]
      simp [Kerb.credAt]; omega
  · rintro ⟨e, l⟩ ⟨i, n, rfl, ⟨rfl, h⟩ | ⟨rfl, h⟩⟩
    · simp only [onInt_int, onU8_u8, onBool_bool, onStr_str, onBs_bs, onSl_sl, onAgg_agg, onTup_tup, onOwnB_ownB, onOwnL_ownL, onCons_cons, onNil_nil, onNilB_nil, onConsB_cons, chk_true, chk_bind, sel_bind, some_bind, exK_ret, exK_exit, sel_true, sel_false, h]
    · simp only [onInt_int, onU8_u8, onBool_bool, onStr_str, onBs_bs, onSl_sl, onAgg_agg, onTup_tup, onOwnB_ownB, onOwnL_ownL, onCons_cons, onNil_nil, onNilB_nil, onConsB_cons, chk_true, chk_bind, sel_bind, some_bind, exK_ret, exK_exit, sel_true, sel_false, h, List.length_map]
      rw [sel_pos (Nat.beq_refl _)]

theorem w156 : Walked Tryz.prog G 156 1 sp156 := by
  refine ⟨Tryz.f156, Tryz.func156, by decide +kernel, rfl, fun xs bl r h => ?_⟩
  unfold sp156 at h
  split at h
  · obtain ⟨h1, h2⟩ := chk_inv h; cases h2; exact p156 _ _ _ _ h1
  · cases h

/- (*kerbsuite/kerbsuitedata.Source).Next -/
theorem r157 (l : List UInt8) (pos n : Int) : runFn (G.env 157 1) G.rts (G.own 157) Tryz.f157 [.ptr 0 0, .int .i64 n] [(0, [.bs l, .int .i64 pos])] = sel (decide (pos ≥ (↑(List.length l) : Int))) (some (AV.int IntKind.i64 (0 : Int), [[AV.bs l, AV.int IntKind.i64 pos]])) (sel (decide (n ≤ (0 : Int))) (some (AV.int IntKind.i64 (0 : Int), [[AV.bs l, AV.int IntKind.i64 pos]])) (chk (decide ((0 : Int) ≤ pos) && decide (pos < (↑(List.length l) : Int))) (chk (!n == (0 : Int)) (some (AV.int IntKind.i64 (Int.tmod (IntKind.wrap IntKind.i64 (↑(UInt8.toNat (List.getD l (Int.toNat pos) (0 : UInt8))) : Int)) n), [[AV.bs l, AV.int IntKind.i64 (IntKind.wrap IntKind.i64 (pos + (1 : Int)))]]))))) := by kernel_rfl

theorem p157 (l : List UInt8) (pos n : Int) (hpre : (decide (l.length ≤ 4611686018427387904) && decide (0 ≤ pos)) = true) : runFn (G.env 157 1) G.rts (G.own 157) Tryz.f157 [.ptr 0 0, .int .i64 n] [(0, [.bs l, .int .i64 pos])] = some (.int .i64 (Kerb.next l pos n), [[.bs l, .int .i64 (Kerb.nextPos l pos n)]]) := by
  rw [r157]
  simp only [Bool.and_eq_true, decide_eq_true_eq] at hpre
  unfold Kerb.next Kerb.nextPos
  by_cases h1 : (l.length : Int) ≤ pos
  · simp [sel, h1]
    omega
  by_cases h2 : n ≤ 0
  · simp [sel, h1, h2]
    omega
  have h3 : ¬ n = 0 := by omega
  have hb := (l.getD pos.toNat 0).toNat_lt
  rw [sel_neg (by simp; omega), sel_neg (by simp; omega), chk_of (by simp; omega), chk_of (by simpa using h3), if_neg (by omega), if_neg (by omega), wrap_i64 (by omega) (by omega), wrap_i64 (by omega) (by omega), Int.tmod_eq_emod_of_nonneg (by omega), Int.toNat_of_nonneg (by omega)]

theorem w157 : Walked Tryz.prog G 157 1 sp157 := by
  refine ⟨Tryz.f157, Tryz.func157, by decide +kernel, rfl, fun xs bl r h => ?_⟩
  unfold sp157 at h
  split at h
  · obtain ⟨h1, h2⟩ := chk_inv h; cases h2; exact p157 _ _ _ h1
  · cases h

/- kerbsuite/header.isKind -/
theorem r159 (k : Int) : runFn (G.env 159 1) G.rts (G.own 159) Tryz.f159 [.int .i64 k] [] = sel (decide (k ≥ (1 : Int))) (some (AV.bool (decide (k ≤ (10 : Int))), [])) (some (AV.bool false, [])) := by kernel_rfl

theorem p159 (k : Int) : runFn (G.env 159 1) G.rts (G.own 159) Tryz.f159 [.int .i64 k] [] = some (.bool (Kerb.isKind k), []) := by
  rw [r159]
  by_cases h : 1 ≤ k <;> simp [sel, Kerb.isKind, h]

theorem w159 : Walked Tryz.prog G 159 1 sp159 := by
  refine ⟨Tryz.f159, Tryz.func159, by decide +kernel, rfl, fun xs bl r h => ?_⟩
  unfold sp159 at h
  split at h
  · cases h; exact p159 _
  · cases h

/- kerbsuite/kerbsuiteref1.text -/
theorem r161 (s bad : List UInt8) : runFn (G.env 161 1) G.rts (G.own 161) Tryz.f161 [.str s, .str bad] [] = Option.bind (loopM (fun (st : List AV) => onCons st fun (x : AV) (r : List AV) => AV.onStr x fun (b : List UInt8) => onCons r fun (x : AV) (r : List AV) => AV.onStr x fun (b_1 : List UInt8) => onCons r fun (x : AV) (r : List AV) => AV.onBool x fun (b_2 : Bool) => onCons r fun (x : AV) (r : List AV) => AV.onInt IntKind.i64 x fun (n : Int) => onNil r (sel (decide (n < (↑(List.length b) : Int))) (chk (decide ((0 : Int) ≤ n) && decide (n < (↑(List.length b) : Int))) (sel (decide ((↑(UInt8.toNat (List.getD b (Int.toNat n) (0 : UInt8))) : Int) < (↑(UInt8.toNat (33 : UInt8)) : Int))) (some (Sum.inr (Ex.ret, [AV.str b, AV.str b_1, AV.bool false, AV.int IntKind.i64 n]))) (chk (decide ((0 : Int) ≤ n) && decide (n < (↑(List.length b) : Int))) (sel (decide ((↑(UInt8.toNat (List.getD b (Int.toNat n) (0 : UInt8))) : Int) > (↑(UInt8.toNat (126 : UInt8)) : Int))) (some (Sum.inr (Ex.ret, [AV.str b, AV.str b_1, AV.bool false, AV.int IntKind.i64 n]))) (Option.bind (loopM (fun (st : List AV) => onCons st fun (x : AV) (r : List AV) => AV.onStr x fun (b : List UInt8) => onCons r fun (x : AV) (r : List AV) => AV.onStr x fun (b_3 : List UInt8) => onCons r fun (x : AV) (r : List AV) => AV.onBool x fun (b_4 : Bool) => onCons r fun (x : AV) (r : List AV) => AV.onInt IntKind.i64 x fun (n : Int) => onCons r fun (x : AV) (r : List AV) => AV.onInt IntKind.i64 x fun (n_1 : Int) => onNil r (sel (decide (n_1 < (↑(List.length b_3) : Int))) (chk (decide ((0 : Int) ≤ n) && decide (n < (↑(List.length b) : Int))) (chk (decide ((0 : Int) ≤ n_1) && decide (n_1 < (↑(List.length b_3) : Int))) (sel (List.getD b (Int.toNat n) (0 : UInt8) == List.getD b_3 (Int.toNat n_1) (0 : UInt8)) (some (Sum.inr (Ex.ret, [AV.str b, AV.str b_3, AV.bool false, AV.int IntKind.i64 n, AV.int IntKind.i64 n_1]))) (some (Sum.inl [AV.str b, AV.str b_3, AV.bool b_4, AV.int IntKind.i64 n, AV.int IntKind.i64 (IntKind.wrap IntKind.i64 (n_1 + (1 : Int)))]))))) (some (Sum.inr (Ex.exit (2 : Nat), [AV.str b, AV.str b_3, AV.bool b_4, AV.int IntKind.i64 n, AV.int IntKind.i64 n_1]))))) [AV.str b, AV.str b_1, AV.bool b_2, AV.int IntKind.i64 n, AV.int IntKind.i64 (0 : Int)]) fun (r : Ex × List AV) => onCons (Prod.snd r) fun (x : AV) (r_1 : List AV) => AV.onStr x fun (b : List UInt8) => onCons r_1 fun (x : AV) (r_2 : List AV) => AV.onStr x fun (b_3 : List UInt8) => onCons r_2 fun (x : AV) (r_3 : List AV) => AV.onBool x fun (b_4 : Bool) => onCons r_3 fun (x : AV) (r_4 : List AV) => AV.onInt IntKind.i64 x fun (n : Int) => onCons r_4 fun (x : AV) (r_5 : List AV) => AV.onInt IntKind.i64 x fun (n_1 : Int) => onNil r_5 (exK r.1 (some (Sum.inr (Ex.ret, [AV.str b, AV.str b_3, AV.bool b_4, AV.int IntKind.i64 n]))) fun (j : Nat) => sel (Nat.beq j (2 : Nat)) (some (Sum.inl [AV.str b, AV.str b_3, AV.bool b_4, AV.int IntKind.i64 (IntKind.wrap IntKind.i64 (n + (1 : Int)))])) none)))))) (some (Sum.inr (Ex.exit (0 : Nat), [AV.str b, AV.str b_1, AV.bool b_2, AV.int IntKind.i64 n]))))) [AV.str s, AV.str bad, AV.bool false, AV.int IntKind.i64 (0 : Int)]) fun (r : Ex × List AV) => onCons (Prod.snd r) fun (x : AV) (r_1 : List AV) => AV.onStr x fun (b : List UInt8) => onCons r_1 fun (x : AV) (r_2 : List AV) => AV.onStr x fun (b_1 : List UInt8) => onCons r_2 fun (x : AV) (r_3 : List AV) => AV.onBool x fun (b_2 : Bool) => onCons r_3 fun (x : AV) (r_4 : List AV) => AV.onInt IntKind.i64 x fun (n : Int) => onNil r_4 (exK r.1 (some (AV.bool b_2, [])) fun (j : Nat) => sel (Nat.beq j (0 : Nat)) (some (AV.bool (decide ((↑(List.length b) : Int) ≤ (39 : Int))), [])) none) := by kernel_rfl

theorem p161 (s bad : List UInt8) (hpre : (decide (s.length ≤ 9223372036854775807) && decide (bad.length ≤ 100)) = true) : runFn (G.env 161 1) G.rts (G.own 161) Tryz.f161 [.str s, .str bad] [] = some (.bool (Kerb.printable s bad && decide (s.length ≤ 39)), []) := by
  rw [r161]
  simp only [Bool.and_eq_true, decide_eq_true_eq] at hpre
  refine loop_rounds (fun i : Nat => [AV.str s, AV.str bad, AV.bool false, AV.int IntKind.i64 (i : Int)]) (fun i => i ≤ s.length ∧ Kerb.printable s bad = Kerb.printable (s.drop i) bad) (fun i => s.length - i)
    (fun r => ∃ i : Nat, r.2 = [AV.str s, AV.str bad, AV.bool false, AV.int IntKind.i64 (i : Int)] ∧ ((r.1 = .ret ∧ Kerb.printable s bad = false) ∨ (r.1 = .exit 0 ∧ Kerb.printable s bad = true))) 0 ⟨Nat.zero_le _, rfl⟩ rfl ?_ ?_
  · rintro i ⟨hi, hp⟩
    simp only [onInt_int, onU8_u8, onBool_bool, onStr_str, onBs_bs, onSl_sl, onAgg_agg, onTup_tup, onOwnB_ownB, onOwnL_ownL, onCons_cons, onNil_nil, onNilB_nil, onConsB_cons, chk_true, chk_bind, sel_bind, some_bind, exK_ret, exK_exit, sel_true, sel_false]
    by_cases hlt : i < s.length
    · have hc : (decide ((0 : Int) ≤ (i : Int)) && decide ((i : Int) < (s.length : Int))) = true := by simp; omega
      have hd := Kerb.drop_all_cons hlt
      rw [sel_pos (by simp; omega), chk_of hc, Int.toNat_natCast]
      have hpr : Kerb.printable (s.drop i) bad = (Kerb.okB bad (s.getD i 0) && Kerb.printable (s.drop (i + 1)) bad) := by rw [hd]; rfl
      generalize hcc : s.getD i 0 = c at *
      by_cases h1 : c.toNat < 33
      · rw [sel_pos (by simp; omega)]
        exact ⟨_, rfl, i, rfl, .inl ⟨rfl, by rw [hp, hpr]; simp [Kerb.okB, h1]⟩⟩
      rw [sel_neg (by simp; omega), chk_of hc]
      by_cases h2 : 126 < c.toNat
      · rw [sel_pos (by simp; omega)]
        exact ⟨_, rfl, i, rfl, .inl ⟨rfl, by rw [hp, hpr]; simp [Kerb.okB, h2]⟩⟩
      rw [sel_neg (by simp; omega)]
      refine loop_ex (fun j : Nat => [AV.str s, AV.str bad, AV.bool false, AV.int IntKind.i64 (i : Int), AV.int IntKind.i64 (j : Int)]) (fun j => j ≤ bad.length ∧ (c ∈ bad ↔ c ∈ bad.drop j)) (fun j => bad.length - j)
        (fun r => ∃ j : Nat, r.2 = [AV.str s, AV.str bad, AV.bool false, AV.int IntKind.i64 (i : Int), AV.int IntKind.i64 (j : Int)] ∧ ((r.1 = .ret ∧ c ∈ bad) ∨ (r.1 = .exit 2 ∧ c ∉ bad))) 0 ⟨Nat.zero_le _, by simp⟩ rfl ?_ ?_
      · rintro j ⟨hj, hm⟩
        simp only [onInt_int, onU8_u8, onBool_bool, onStr_str, onBs_bs, onSl_sl, onAgg_agg, onTup_tup, onOwnB_ownB, onOwnL_ownL, onCons_cons, onNil_nil, onNilB_nil, onConsB_cons, chk_true, chk_bind, sel_bind, some_bind, exK_ret, exK_exit, sel_true, sel_false]
        by_cases hjl : j < bad.length
        · have hdj := Kerb.drop_all_cons hjl
          rw [sel_pos (by simp; omega), chk_of hc, chk_of (by simp; omega), Int.toNat_natCast, Int.toNat_natCast, hcc]
          rw [hdj, List.mem_cons] at hm
          by_cases h3 : c = bad.getD j 0
          · rw [sel_pos (by simpa using h3)]
            exact ⟨_, rfl, j, rfl, .inl ⟨rfl, hm.2 (.inl h3)⟩⟩
          · rw [sel_neg (by simpa using h3), wrap_i64 (by omega) (by omega)]
            exact ⟨_, rfl, j + 1, rfl, ⟨by omega, hm.trans ⟨fun h => h.resolve_left h3, .inr⟩⟩, by dsimp only; omega⟩
        · rw [sel_neg (by simp; omega)]
          refine ⟨_, rfl, j, rfl, .inr ⟨rfl, ?_⟩⟩
          rw [hm, List.drop_eq_nil_of_le (by omega)]; simp
      · rintro ⟨e, l⟩ ⟨j, rfl, ⟨rfl, h3⟩ | ⟨rfl, h3⟩⟩
        · simp only [onInt_int, onU8_u8, onBool_bool, onStr_str, onBs_bs, onSl_sl, onAgg_agg, onTup_tup, onOwnB_ownB, onOwnL_ownL, onCons_cons, onNil_nil, onNilB_nil, onConsB_cons, chk_true, chk_bind, sel_bind, some_bind, exK_ret, exK_exit, sel_true, sel_false]
          exact ⟨_, rfl, i, rfl, .inl ⟨rfl, by rw [hp, hpr]; simp [Kerb.okB, h3]⟩⟩
        · simp only [onInt_int, onU8_u8, onBool_bool, onStr_str, onBs_bs, onSl_sl, onAgg_agg, onTup_tup, onOwnB_ownB, onOwnL_ownL, onCons_cons, onNil_nil, onNilB_nil, onConsB_cons, chk_true, chk_bind, sel_bind, some_bind, exK_ret, exK_exit, sel_true, sel_false]
          rw [sel_pos (Nat.beq_refl _), wrap_i64 (by omega) (by omega)]
          exact ⟨_, rfl, i + 1, rfl, ⟨by omega, by rw [hp, hpr]; simp [Kerb.okB, h1, h2, h3]⟩, by dsimp only; omega⟩
    · rw [sel_neg (by simp; omega)]
      exact ⟨_, rfl, i, rfl, .inr ⟨rfl, by rw [hp, List.drop_eq_nil_of_le (by omega)]; rfl⟩⟩
  · rintro ⟨e, l⟩ ⟨i, rfl, ⟨rfl, hp⟩ | ⟨rfl, hp⟩⟩
    · simp only [onInt_int, onU8_u8, onBool_bool, onStr_str, onBs_bs, onSl_sl, onAgg_agg, onTup_tup, onOwnB_ownB, onOwnL_ownL, onCons_cons, onNil_nil, onNilB_nil, onConsB_cons, chk_true, chk_bind, sel_bind, some_bind, exK_ret, exK_exit, sel_true, sel_false, hp]
      rfl
    · simp only [onInt_int, onU8_u8, onBool_bool, onStr_str, onBs_bs, onSl_sl, onAgg_agg, onTup_tup, onOwnB_ownB, onOwnL_ownL, onCons_cons, onNil_nil, onNilB_nil, onConsB_cons, chk_true, chk_bind, sel_bind, some_bind, exK_ret, exK_exit, sel_true, sel_false, hp]
      rw [sel_pos (Nat.beq_refl _), decide_eq_decide.2 (show ((s.length : Int) ≤ 39) ↔ s.length ≤ 39 from by omega)]
      rfl

theorem w161 : Walked Tryz.prog G 161 1 sp161 := by
  refine ⟨Tryz.f161, Tryz.func161, by decide +kernel, rfl, fun xs bl r h => ?_⟩
  unfold sp161 at h
  split at h
  · obtain ⟨h1, h2⟩ := chk_inv h; cases h2; exact p161 _ _ h1
  · cases h

/- kerbsuite/kerbsuiteref5.put -/
theorem r162 (b : List UInt8) (n k : Int) (little : Bool) : runFn (G.env 162 1) G.rts (G.own 162) Tryz.f162 [.bs b, .int .i64 n, .int .i64 k, .bool little] [] = chk (room (List.length b) (1 : Nat)) (Option.bind (loopM (fun (st : List AV) => onCons st fun (x : AV) (r : List AV) => AV.onInt IntKind.i64 x fun (n : Int) => onCons r fun (x : AV) (r : List AV) => AV.onInt IntKind.i64 x fun (n_1 : Int) => onCons r fun (x : AV) (r : List AV) => AV.onBool x fun (b : Bool) => onCons r fun (x : AV) (r : List AV) => AV.onOwnB x fun (b_1 : List UInt8) => onCons r fun (x : AV) (r : List AV) => AV.onInt IntKind.i64 x fun (n_2 : Int) => onNil r (sel (decide (n_2 < n_1)) (sel b (chk (decide ((0 : Int) ≤ IntKind.wrap IntKind.u64 (IntKind.wrap IntKind.i64 ((8 : Int) * n_2)))) (chk (room (List.length b_1 + List.length [UInt8.ofNat (Int.toNat (IntKind.wrap IntKind.u8 (Int.fdiv (IntKind.wrap IntKind.u64 n) ((2 : Int) ^ min (Int.toNat (IntKind.wrap IntKind.u64 (IntKind.wrap IntKind.i64 ((8 : Int) * n_2)))) (IntKind.bits IntKind.u64)))))]) (1 : Nat)) (some (Sum.inl [AV.int IntKind.i64 n, AV.int IntKind.i64 n_1, AV.bool b, AV.ownB (b_1 ++ [UInt8.ofNat (Int.toNat (IntKind.wrap IntKind.u8 (Int.fdiv (IntKind.wrap IntKind.u64 n) ((2 : Int) ^ min (Int.toNat (IntKind.wrap IntKind.u64 (IntKind.wrap IntKind.i64 ((8 : Int) * n_2)))) (IntKind.bits IntKind.u64)))))]), AV.int IntKind.i64 (IntKind.wrap IntKind.i64 (n_2 + (1 : Int)))])))) (chk (decide ((0 : Int) ≤ IntKind.wrap IntKind.u64 (IntKind.wrap IntKind.i64 ((8 : Int) * IntKind.wrap IntKind.i64 (IntKind.wrap IntKind.i64 (n_1 - (1 : Int)) - n_2))))) (chk (room (List.length b_1 + List.length [UInt8.ofNat (Int.toNat (IntKind.wrap IntKind.u8 (Int.fdiv (IntKind.wrap IntKind.u64 n) ((2 : Int) ^ min (Int.toNat (IntKind.wrap IntKind.u64 (IntKind.wrap IntKind.i64 ((8 : Int) * IntKind.wrap IntKind.i64 (IntKind.wrap IntKind.i64 (n_1 - (1 : Int)) - n_2))))) (IntKind.bits IntKind.u64)))))]) (1 : Nat)) (some (Sum.inl [AV.int IntKind.i64 n, AV.int IntKind.i64 n_1, AV.bool b, AV.ownB (b_1 ++ [UInt8.ofNat (Int.toNat (IntKind.wrap IntKind.u8 (Int.fdiv (IntKind.wrap IntKind.u64 n) ((2 : Int) ^ min (Int.toNat (IntKind.wrap IntKind.u64 (IntKind.wrap IntKind.i64 ((8 : Int) * IntKind.wrap IntKind.i64 (IntKind.wrap IntKind.i64 (n_1 - (1 : Int)) - n_2))))) (IntKind.bits IntKind.u64)))))]), AV.int IntKind.i64 (IntKind.wrap IntKind.i64 (n_2 + (1 : Int)))]))))) (some (Sum.inr (Ex.exit (0 : Nat), [AV.int IntKind.i64 n, AV.int IntKind.i64 n_1, AV.bool b, AV.ownB b_1, AV.int IntKind.i64 n_2]))))) [AV.int IntKind.i64 n, AV.int IntKind.i64 k, AV.bool little, AV.ownB b, AV.int IntKind.i64 (0 : Int)]) fun (r : Ex × List AV) => onCons (Prod.snd r) fun (x : AV) (r_1 : List AV) => AV.onInt IntKind.i64 x fun (n : Int) => onCons r_1 fun (x : AV) (r_2 : List AV) => AV.onInt IntKind.i64 x fun (n : Int) => onCons r_2 fun (x : AV) (r_3 : List AV) => AV.onBool x fun (b : Bool) => onCons r_3 fun (x : AV) (r_4 : List AV) => AV.onOwnB x fun (b : List UInt8) => onCons r_4 fun (x : AV) (r_5 : List AV) => AV.onInt IntKind.i64 x fun (n : Int) => onNil r_5 (exK r.1 none fun (j : Nat) => sel (Nat.beq j (0 : Nat)) (some (AV.ownB b, [])) none)) := by kernel_rfl

theorem p162 (b : List UInt8) (n k : Int) (little : Bool) (hpre : (decide (k = 1 ∨ k = 2 ∨ k = 4) && decide (b.length ≤ 70368744177664)) = true) : runFn (G.env 162 1) G.rts (G.own 162) Tryz.f162 [.bs b, .int .i64 n, .int .i64 k, .bool little] [] = some (.ownB (b ++ Kerb.putN n k.toNat little), []) := by
  rw [r162]
  simp only [Bool.and_eq_true, decide_eq_true_eq] at hpre
  obtain ⟨hk, hb⟩ := hpre
  have hk4 : k.toNat ≤ 4 ∧ 0 ≤ k := by omega
  rw [chk_of (Kerb.room_ok (by omega))]
  refine loop_rounds (fun i : Nat => [AV.int IntKind.i64 n, AV.int IntKind.i64 k, AV.bool little, AV.ownB (b ++ (Kerb.putN n k.toNat little).take i), AV.int IntKind.i64 (i : Int)]) (fun i => i ≤ k.toNat) (fun i => k.toNat - i)
    (fun r => r = (Ex.exit 0, [AV.int IntKind.i64 n, AV.int IntKind.i64 k, AV.bool little, AV.ownB (b ++ Kerb.putN n k.toNat little), AV.int IntKind.i64 k])) 0 (Nat.zero_le _) (by simp) ?_ ?_
  · intro i hi
    simp only [onInt_int, onU8_u8, onBool_bool, onStr_str, onBs_bs, onSl_sl, onAgg_agg, onTup_tup, onOwnB_ownB, onOwnL_ownL, onCons_cons, onNil_nil, onNilB_nil, onConsB_cons, chk_true, chk_bind, sel_bind, some_bind, exK_ret, exK_exit, sel_true, sel_false]
    by_cases hlt : i < k.toNat
    · have hs := Kerb.take_succ_getD (l := Kerb.putN n k.toNat little) (i := i) (by rw [Kerb.putN_len]; omega)
      have hg := Kerb.putN_getD n k.toNat little hlt
      have hl : ((Kerb.putN n k.toNat little).take i).length = i := by simp [Kerb.putN_len]; omega
      rw [sel_pos (by simp; omega)]
      have hw : ∀ j : Nat, j < 4 → IntKind.wrap IntKind.u64 (IntKind.wrap IntKind.i64 (8 * (j : Int))) = ((8 * j : Nat) : Int) := fun j hj => by
        rw [wrap_i64 (by omega) (by omega), Kerb.wrap_u64]; omega
      have hm : ∀ j : Nat, j < 4 → min (Int.toNat ((8 * j : Nat) : Int)) (IntKind.bits IntKind.u64) = 8 * j := fun j hj => by
        have : IntKind.bits IntKind.u64 = 64 := rfl
        rw [this]; omega
      cases little
      · have e : IntKind.wrap IntKind.i64 (IntKind.wrap IntKind.i64 (k - 1) - (i : Int)) = ((k.toNat - 1 - i : Nat) : Int) := by
          rw [wrap_i64 (n := k - 1) (by omega) (by omega), wrap_i64 (by omega) (by omega)]; omega
        rw [sel_neg rfl, e, hw _ (by omega), hm _ (by omega), Kerb.ubyte n (by omega), chk_of (by simp; omega), chk_of (Kerb.room_ok (by simp [hl]; omega)), wrap_i64 (by omega) (by omega)]
        refine ⟨_, rfl, i + 1, ?_, by omega, by dsimp only; omega⟩
        dsimp only
        rw [hs, hg, ← List.append_assoc]
        rfl
      · rw [sel_pos rfl, hw _ (by omega), hm _ (by omega), Kerb.ubyte n (by omega), chk_of (by simp; omega), chk_of (Kerb.room_ok (by simp [hl]; omega)), wrap_i64 (by omega) (by omega)]
        refine ⟨_, rfl, i + 1, ?_, by omega, by dsimp only; omega⟩
        dsimp only
        rw [hs, hg, ← List.append_assoc]
        rfl
    · rw [sel_neg (by simp; omega)]
      refine ⟨_, rfl, ?_⟩
      show _ = _
      rw [List.take_of_length_le (by rw [Kerb.putN_len]; omega), show (i : Int) = k from by omega]
  · rintro r rfl
    simp only [onInt_int, onU8_u8, onBool_bool, onStr_str, onBs_bs, onSl_sl, onAgg_agg, onTup_tup, onOwnB_ownB, onOwnL_ownL, onCons_cons, onNil_nil, onNilB_nil, onConsB_cons, chk_true, chk_bind, sel_bind, some_bind, exK_ret, exK_exit, sel_true, sel_false]
    rw [sel_pos (Nat.beq_refl _)]

theorem w162 : Walked Tryz.prog G 162 1 sp162 := by
  refine ⟨Tryz.f162, Tryz.func162, by decide +kernel, rfl, fun xs bl r h => ?_⟩
  unfold sp162 at h
  split at h
  · obtain ⟨h1, h2⟩ := chk_inv h; cases h2; exact p162 _ _ _ _ h1
  · cases h

/- kerbsuite/kerbsuiteref3.Make -/
theorem r174 (c n : Int) : runFn (G.env 174 1) G.rts (G.own 174) Tryz.f174 [.int .i64 c, .int .i64 n] [] = sel (!c == (1 : Int)) (sel (!c == (2 : Int)) (some (AV.int IntKind.u64 (0 : Int), [])) (sel (decide (n < (1 : Int))) (some (AV.int IntKind.u64 (0 : Int), [])) (sel (decide (n > (4294967295 : Int))) (some (AV.int IntKind.u64 (0 : Int), [])) (some (AV.int IntKind.u64 (IntKind.wrap IntKind.u64 (↑(BitVec.toNat (BitVec.ofInt (IntKind.bits IntKind.u64) (IntKind.wrap IntKind.u64 (IntKind.wrap IntKind.u64 c * (2 : Int) ^ min (Int.toNat (56 : Int)) (IntKind.bits IntKind.u64))) ||| BitVec.ofInt (IntKind.bits IntKind.u64) (IntKind.wrap IntKind.u64 n))) : Int)), []))))) (sel (decide (n < (1 : Int))) (some (AV.int IntKind.u64 (0 : Int), [])) (sel (decide (n > (4294967295 : Int))) (some (AV.int IntKind.u64 (0 : Int), [])) (some (AV.int IntKind.u64 (IntKind.wrap IntKind.u64 (↑(BitVec.toNat (BitVec.ofInt (IntKind.bits IntKind.u64) (IntKind.wrap IntKind.u64 (IntKind.wrap IntKind.u64 c * (2 : Int) ^ min (Int.toNat (56 : Int)) (IntKind.bits IntKind.u64))) ||| BitVec.ofInt (IntKind.bits IntKind.u64) (IntKind.wrap IntKind.u64 n))) : Int)), [])))) := by kernel_rfl

theorem p174 (c n : Int) : runFn (G.env 174 1) G.rts (G.own 174) Tryz.f174 [.int .i64 c, .int .i64 n] [] = some (.int .u64 (cond (Kerb.isClass c && Kerb.isSerial n) (c * 72057594037927936 + n) 0), []) := by
  rw [r174]
  unfold Kerb.isClass Kerb.isSerial
  by_cases hc : c = 1 ∨ c = 2
  case neg =>
    have q1 : (c == (1 : Int)) = false := by simp; omega
    have q2 : (c == (2 : Int)) = false := by simp; omega
    rw [q1, q2]
    rfl
  by_cases hn : 1 ≤ n ∧ n ≤ 4294967295
  case neg =>
    have q : (decide (1 ≤ n) && decide (n ≤ 4294967295)) = false := by
      rw [Bool.eq_false_iff]
      simp
      omega
    rw [q, Bool.and_false]
    have key : (sel (decide (n < (1 : Int))) (some (AV.int .u64 (0 : Int), ([] : Blocks))) (sel (decide (n > (4294967295 : Int))) (some (AV.int .u64 (0 : Int), [])) (some (AV.int IntKind.u64 (IntKind.wrap IntKind.u64 ((BitVec.toNat (BitVec.ofInt (IntKind.bits IntKind.u64) (IntKind.wrap IntKind.u64 (IntKind.wrap IntKind.u64 c * (2 : Int) ^ min (Int.toNat (56 : Int)) (IntKind.bits IntKind.u64))) ||| BitVec.ofInt (IntKind.bits IntKind.u64) (IntKind.wrap IntKind.u64 n)) : Nat) : Int)), [])))) = some (AV.int .u64 0, []) := by
      by_cases hl : n < 1
      · rw [sel_pos (by simpa using hl)]
      · rw [sel_neg (by simpa using hl), sel_pos (by simp; omega)]
    rcases hc with rfl | rfl
    · rw [sel_neg (by decide)]; exact key
    · rw [sel_pos (by decide), sel_neg (by decide)]; exact key
  have q : (decide (1 ≤ n) && decide (n ≤ 4294967295)) = true := by simp; omega
  have q2 : (c == (1 : Int) || c == (2 : Int)) = true := by simpa using hc
  rw [q, q2, Kerb.key_make hc hn.1 hn.2]
  rcases hc with rfl | rfl
  · rw [sel_neg (by decide), sel_neg (by simp; omega), sel_neg (by simp; omega)]
    rfl
  · rw [sel_pos (by decide), sel_neg (by decide), sel_neg (by simp; omega), sel_neg (by simp; omega)]
    rfl

theorem w174 : Walked Tryz.prog G 174 1 sp174 := by
  refine ⟨Tryz.f174, Tryz.func174, by decide +kernel, rfl, fun xs bl r h => ?_⟩
  unfold sp174 at h
  split at h
  · cases h; exact p174 _ _
  · cases h

/- kerbsuite/box.isKind -/
theorem r182 (k : Int) : runFn (G.env 182 1) G.rts (G.own 182) Tryz.f182 [.int .i64 k] [] = sel (decide (k ≥ (1 : Int))) (some (AV.bool (decide (k ≤ (10 : Int))), [])) (some (AV.bool false, [])) := by kernel_rfl

theorem p182 (k : Int) : runFn (G.env 182 1) G.rts (G.own 182) Tryz.f182 [.int .i64 k] [] = some (.bool (Kerb.isKind k), []) := by
  rw [r182]
  by_cases h : 1 ≤ k <;> simp [sel, Kerb.isKind, h]

theorem w182 : Walked Tryz.prog G 182 1 sp182 := by
  refine ⟨Tryz.f182, Tryz.func182, by decide +kernel, rfl, fun xs bl r h => ?_⟩
  unfold sp182 at h
  split at h
  · cases h; exact p182 _
  · cases h

/- kerbsuite/lifetime.isLife -/
theorem r190 (n : Int) : runFn (G.env 190 1) G.rts (G.own 190) Tryz.f190 [.int .i64 n] [] = sel (decide (n ≥ (0 : Int))) (some (AV.bool (decide (n ≤ (255 : Int))), [])) (some (AV.bool false, [])) := by kernel_rfl

theorem p190 (n : Int) : runFn (G.env 190 1) G.rts (G.own 190) Tryz.f190 [.int .i64 n] [] = some (.bool (Kerb.within n 255), []) := by
  rw [r190]
  by_cases h : 0 ≤ n <;> simp [sel, Kerb.within, h]

theorem w190 : Walked Tryz.prog G 190 1 sp190 := by
  refine ⟨Tryz.f190, Tryz.func190, by decide +kernel, rfl, fun xs bl r h => ?_⟩
  unfold sp190 at h
  split at h
  · cases h; exact p190 _
  · cases h

/- kerbsuite/key.Bytes -/
theorem r192 (k : Int) : runFn (G.env 192 1) G.rts (G.own 192) Tryz.f192 [.int .u64 k] [] = Option.bind (loopM (fun (st : List AV) => onCons st fun (x : AV) (r : List AV) => AV.onInt IntKind.u64 x fun (n : Int) => onCons r fun (x : AV) (r : List AV) => AV.onOwnB x fun (b : List UInt8) => onCons r fun (x : AV) (r : List AV) => AV.onInt IntKind.i64 x fun (n_1 : Int) => onCons r fun (x : AV) (r : List AV) => AV.onInt IntKind.i64 x fun (n_2 : Int) => onNil r (sel (decide (n_2 < n_1)) (chk (decide ((0 : Int) ≤ IntKind.wrap IntKind.i64 ((8 : Int) * IntKind.wrap IntKind.i64 ((7 : Int) - n_2)))) (chk (decide ((0 : Int) ≤ n_2) && decide (n_2 < (↑(List.length b) : Int))) (chk (Nat.blt (Int.toNat n_2) (List.length b) && true && true && true && true) (some (Sum.inl [AV.int IntKind.u64 n, AV.ownB (List.set b (Int.toNat n_2) (UInt8.ofNat (Int.toNat (IntKind.wrap IntKind.u8 (Int.fdiv n ((2 : Int) ^ min (Int.toNat (IntKind.wrap IntKind.i64 ((8 : Int) * IntKind.wrap IntKind.i64 ((7 : Int) - n_2)))) (IntKind.bits IntKind.u64))))))), AV.int IntKind.i64 n_1, AV.int IntKind.i64 (IntKind.wrap IntKind.i64 (n_2 + (1 : Int)))]))))) (some (Sum.inr (Ex.exit (0 : Nat), [AV.int IntKind.u64 n, AV.ownB b, AV.int IntKind.i64 n_1, AV.int IntKind.i64 n_2]))))) [AV.int IntKind.u64 k, AV.ownB (List.replicate (Int.toNat (8 : Int)) (0 : UInt8)), AV.int IntKind.i64 (↑(List.length (List.replicate (Int.toNat (8 : Int)) (0 : UInt8))) : Int), AV.int IntKind.i64 (0 : Int)]) fun (r : Ex × List AV) => onCons (Prod.snd r) fun (x : AV) (r_1 : List AV) => AV.onInt IntKind.u64 x fun (n : Int) => onCons r_1 fun (x : AV) (r_2 : List AV) => AV.onOwnB x fun (b : List UInt8) => onCons r_2 fun (x : AV) (r_3 : List AV) => AV.onInt IntKind.i64 x fun (n : Int) => onCons r_3 fun (x : AV) (r_4 : List AV) => AV.onInt IntKind.i64 x fun (n : Int) => onNil r_4 (exK r.1 none fun (j : Nat) => sel (Nat.beq j (0 : Nat)) (some (AV.bs b, [])) none) := by kernel_rfl

theorem p192 (k : Int) (hpre : (decide (0 ≤ k) && decide (k < 18446744073709551616)) = true) : runFn (G.env 192 1) G.rts (G.own 192) Tryz.f192 [.int .u64 k] [] = some (.bs (Kerb.keyBytes k), []) := by
  rw [r192]
  refine loop_unroll 9 (Ex.exit 0, [AV.int IntKind.u64 k, AV.ownB [Kerb.bfd k 56, Kerb.bfd k 48, Kerb.bfd k 40, Kerb.bfd k 32, Kerb.bfd k 24, Kerb.bfd k 16, Kerb.bfd k 8, Kerb.bfd k 0], AV.int IntKind.i64 8, AV.int IntKind.i64 8]) (by kernel_rfl) ?_
  simp only [onInt_int, onU8_u8, onBool_bool, onStr_str, onBs_bs, onSl_sl, onAgg_agg, onTup_tup, onOwnB_ownB, onOwnL_ownL, onCons_cons, onNil_nil, onNilB_nil, onConsB_cons, chk_true, chk_bind, sel_bind, some_bind, exK_ret, exK_exit, sel_true, sel_false]
  rw [sel_pos (Nat.beq_refl _)]
  simp [Kerb.bfd_eq, Kerb.keyBytes, Kerb.byteAt, List.range_succ]

theorem w192 : Walked Tryz.prog G 192 1 sp192 := by
  refine ⟨Tryz.f192, Tryz.func192, by decide +kernel, rfl, fun xs bl r h => ?_⟩
  unfold sp192 at h
  split at h
  · obtain ⟨h1, h2⟩ := chk_inv h; cases h2; exact p192 _ h1
  · cases h

/- kerbsuite/kerbsuiteref7.within -/
theorem r194 (n m : Int) : runFn (G.env 194 1) G.rts (G.own 194) Tryz.f194 [.int .i64 n, .int .i64 m] [] = sel (decide (n ≥ (0 : Int))) (some (AV.bool (decide (n ≤ m)), [])) (some (AV.bool false, [])) := by kernel_rfl

theorem p194 (n m : Int) : runFn (G.env 194 1) G.rts (G.own 194) Tryz.f194 [.int .i64 n, .int .i64 m] [] = some (.bool (Kerb.within n m), []) := by
  rw [r194]
  by_cases h : 0 ≤ n <;> simp [sel, Kerb.within, h]

theorem w194 : Walked Tryz.prog G 194 1 sp194 := by
  refine ⟨Tryz.f194, Tryz.func194, by decide +kernel, rfl, fun xs bl r h => ?_⟩
  unfold sp194 at h
  split at h
  · cases h; exact p194 _ _
  · cases h

/- kerbsuite/key.isClass -/
theorem r197 (k : Int) : runFn (G.env 197 1) G.rts (G.own 197) Tryz.f197 [.int .i64 k] [] = sel (k == (1 : Int)) (some (AV.bool true, [])) (some (AV.bool (k == (2 : Int)), [])) := by kernel_rfl

theorem p197 (k : Int) : runFn (G.env 197 1) G.rts (G.own 197) Tryz.f197 [.int .i64 k] [] = some (.bool (Kerb.isClass k), []) := by
  rw [r197]
  unfold Kerb.isClass
  cases (k == (1 : Int)) <;> rfl

theorem w197 : Walked Tryz.prog G 197 1 sp197 := by
  refine ⟨Tryz.f197, Tryz.func197, by decide +kernel, rfl, fun xs bl r h => ?_⟩
  unfold sp197 at h
  split at h
  · cases h; exact p197 _
  · cases h

/- kerbsuite/key.isSerial -/
theorem r198 (k : Int) : runFn (G.env 198 1) G.rts (G.own 198) Tryz.f198 [.int .i64 k] [] = sel (decide (k ≥ (1 : Int))) (some (AV.bool (decide (k ≤ (4294967295 : Int))), [])) (some (AV.bool false, [])) := by kernel_rfl

theorem p198 (k : Int) : runFn (G.env 198 1) G.rts (G.own 198) Tryz.f198 [.int .i64 k] [] = some (.bool (Kerb.isSerial k), []) := by
  rw [r198]
  by_cases h : 1 ≤ k <;> simp [sel, Kerb.isSerial, h]

theorem w198 : Walked Tryz.prog G 198 1 sp198 := by
  refine ⟨Tryz.f198, Tryz.func198, by decide +kernel, rfl, fun xs bl r h => ?_⟩
  unfold sp198 at h
  split at h
  · cases h; exact p198 _
  · cases h

/- kerbsuite/authenticator.within -/
theorem r199 (n m : Int) : runFn (G.env 199 1) G.rts (G.own 199) Tryz.f199 [.int .i64 n, .int .i64 m] [] = sel (decide (n ≥ (0 : Int))) (some (AV.bool (decide (n ≤ m)), [])) (some (AV.bool false, [])) := by kernel_rfl

theorem p199 (n m : Int) : runFn (G.env 199 1) G.rts (G.own 199) Tryz.f199 [.int .i64 n, .int .i64 m] [] = some (.bool (Kerb.within n m), []) := by
  rw [r199]
  by_cases h : 0 ≤ n <;> simp [sel, Kerb.within, h]

theorem w199 : Walked Tryz.prog G 199 1 sp199 := by
  refine ⟨Tryz.f199, Tryz.func199, by decide +kernel, rfl, fun xs bl r h => ?_⟩
  unfold sp199 at h
  split at h
  · cases h; exact p199 _ _
  · cases h

/- kerbsuite/kerbsuitelaw20.long -/
theorem r9 (m1 m2 m3 : List UInt8) (ad sk : Int) (li : Bool) (o1 o2 o3 : List UInt8) (els : List AV) (wt : Int) (w1 w2 w3 : List UInt8) (se tm lf cs tc : Int) : runFn (G.env 9 2) G.rts (G.own 9) Tryz.f9 [.agg [.str m1, .str m2, .str m3, .int .i64 ad, .int .i64 sk, .bool li, .str o1, .str o2, .str o3, .sl 8 els, .int .i64 wt, .str w1, .str w2, .str w3, .int .u64 se, .int .i64 tm, .int .i64 lf, .int .i64 cs, .int .i64 tc]] [] = sel (decide ((↑(List.length els) : Int) > (20 : Int))) (some (AV.bool true, [])) (sel (Kerb.longP (Kerb.Prin.mk m1 m2 m3)) (some (AV.bool true, [])) (sel (Kerb.longP (Kerb.Prin.mk w1 w2 w3)) (some (AV.bool true, [])) (some (AV.bool (Kerb.longP (Kerb.Prin.mk o1 o2 o3)), [])))) := by kernel_rfl

theorem p9 (m1 m2 m3 : List UInt8) (ad sk : Int) (li : Bool) (o1 o2 o3 : List UInt8) (els : List AV) (wt : Int) (w1 w2 w3 : List UInt8) (se tm lf cs tc : Int) : runFn (G.env 9 2) G.rts (G.own 9) Tryz.f9 [.agg [.str m1, .str m2, .str m3, .int .i64 ad, .int .i64 sk, .bool li, .str o1, .str o2, .str o3, .sl 8 els, .int .i64 wt, .str w1, .str w2, .str w3, .int .u64 se, .int .i64 tm, .int .i64 lf, .int .i64 cs, .int .i64 tc]] [] = some (.bool (decide (20 < els.length) || (Kerb.longP ⟨m1, m2, m3⟩ || (Kerb.longP ⟨w1, w2, w3⟩ || Kerb.longP ⟨o1, o2, o3⟩))), []) := by
  rw [r9]
  have e : decide ((els.length : Int) > 20) = decide (20 < els.length) := decide_eq_decide.2 (by omega)
  rw [e]
  cases decide (20 < els.length)
  · cases Kerb.longP ⟨m1, m2, m3⟩
    · cases Kerb.longP ⟨w1, w2, w3⟩ <;> rfl
    · rfl
  · rfl

theorem w9 : Walked Tryz.prog G 9 2 sp9 := by
  refine ⟨Tryz.f9, Tryz.func9, by decide +kernel, rfl, fun xs bl r h => ?_⟩
  unfold sp9 at h
  split at h
  · cases h; exact p9 _ _ _ _ _ _ _ _ _ _ _ _ _ _ _ _ _ _ _
  · cases h

/- kerbsuite/kerbsuiteref20.Granter -/
theorem r30 (m1 m2 m3 x y z : List UInt8) : runFn (G.env 30 2) G.rts (G.own 30) Tryz.f30 [.agg [.str m1, .str m2, .str m3], .agg [.str x, .str y, .str z]] [] = some (AV.agg [AV.str [(107 : UInt8), (114 : UInt8), (98 : UInt8), (116 : UInt8), (103 : UInt8), (116 : UInt8)], AV.str z, AV.str m3], []) := by kernel_rfl

theorem p30 (m1 m2 m3 x y z : List UInt8) : runFn (G.env 30 2) G.rts (G.own 30) Tryz.f30 [.agg [.str m1, .str m2, .str m3], .agg [.str x, .str y, .str z]] [] = some (.agg [.str [107, 114, 98, 116, 103, 116], .str z, .str m3], []) := by
  rw [r30]


theorem w30 : Walked Tryz.prog G 30 2 sp30 := by
  refine ⟨Tryz.f30, Tryz.func30, by decide +kernel, rfl, fun xs bl r h => ?_⟩
  unfold sp30 at h
  split at h
  · cases h; exact p30 _ _ _ _ _ _
  · cases h

/- kerbsuite/kerbsuiteref15.Same -/
theorem r35 (o1 o2 o3 : List UInt8) (els : List AV) (o1b o2b o3b : List UInt8) (elsb : List AV) : runFn (G.env 35 2) G.rts (G.own 35) Tryz.f35 [.agg [.str o1, .str o2, .str o3, .sl 8 els], .agg [.str o1b, .str o2b, .str o3b, .sl 8 elsb]] [] = sel (!(o1 == o1b && (o2 == o2b && o3 == o3b))) (some (AV.bool false, [])) (sel (!(↑(List.length els) : Int) == (↑(List.length elsb) : Int)) (some (AV.bool false, [])) (Option.bind (loopM (fun (st : List AV) => onCons st fun (x : AV) (r : List AV) => AV.onStr x fun (b : List UInt8) => onCons r fun (x : AV) (r : List AV) => AV.onStr x fun (b_1 : List UInt8) => onCons r fun (x : AV) (r : List AV) => AV.onStr x fun (b_2 : List UInt8) => onCons r fun (x : AV) (r : List AV) => AV.onSl (8 : Nat) x fun (b_3 : List AV) => onCons r fun (x : AV) (r : List AV) => AV.onStr x fun (b_4 : List UInt8) => onCons r fun (x : AV) (r : List AV) => AV.onStr x fun (b_5 : List UInt8) => onCons r fun (x : AV) (r : List AV) => AV.onStr x fun (b_6 : List UInt8) => onCons r fun (x : AV) (r : List AV) => AV.onSl (8 : Nat) x fun (b_7 : List AV) => onCons r fun (x : AV) (r : List AV) => AV.onBool x fun (b_8 : Bool) => onCons r fun (x : AV) (r : List AV) => AV.onInt IntKind.i64 x fun (n : Int) => onNil r (sel (decide (n < (↑(List.length b_3) : Int))) (chk (decide ((0 : Int) ≤ n) && decide (n < (↑(List.length b_3) : Int)) && true) (AV.onAgg (List.getD b_3 (Int.toNat n) AV.undef) fun (cs : List AV) => onCons cs fun (x : AV) (r : List AV) => AV.onStr x fun (b_9 : List UInt8) => onCons r fun (x : AV) (r : List AV) => AV.onStr x fun (b_10 : List UInt8) => onCons r fun (x : AV) (r : List AV) => AV.onStr x fun (b_11 : List UInt8) => onCons r fun (x : AV) (r : List AV) => AV.onInt IntKind.u64 x fun (n_1 : Int) => onCons r fun (x : AV) (r : List AV) => AV.onInt IntKind.i64 x fun (n_2 : Int) => onCons r fun (x : AV) (r : List AV) => AV.onInt IntKind.i64 x fun (n_3 : Int) => onCons r fun (x : AV) (r : List AV) => AV.onInt IntKind.i64 x fun (n_4 : Int) => onCons r fun (x : AV) (r : List AV) => AV.onBs x fun (b_12 : List UInt8) => onNil r (chk (decide ((0 : Int) ≤ n) && decide (n < (↑(List.length b_7) : Int)) && true) (AV.onAgg (List.getD b_7 (Int.toNat n) AV.undef) fun (cs : List AV) => onCons cs fun (x : AV) (r : List AV) => AV.onStr x fun (b_13 : List UInt8) => onCons r fun (x : AV) (r : List AV) => AV.onStr x fun (b_14 : List UInt8) => onCons r fun (x : AV) (r : List AV) => AV.onStr x fun (b_15 : List UInt8) => onCons r fun (x : AV) (r : List AV) => AV.onInt IntKind.u64 x fun (n_5 : Int) => onCons r fun (x : AV) (r : List AV) => AV.onInt IntKind.i64 x fun (n_6 : Int) => onCons r fun (x : AV) (r : List AV) => AV.onInt IntKind.i64 x fun (n_7 : Int) => onCons r fun (x : AV) (r : List AV) => AV.onInt IntKind.i64 x fun (n_8 : Int) => onCons r fun (x : AV) (r : List AV) => AV.onBs x fun (b_16 : List UInt8) => onNil r (sel (!(b_9 == b_13 && (b_10 == b_14 && b_11 == b_15) && n_1 == n_5 && n_2 == n_6 && n_3 == n_7 && n_4 == n_8 && b_12 == b_16)) (some (Sum.inr (Ex.ret, [AV.str b, AV.str b_1, AV.str b_2, AV.sl (8 : Nat) b_3, AV.str b_4, AV.str b_5, AV.str b_6, AV.sl (8 : Nat) b_7, AV.bool false, AV.int IntKind.i64 n]))) (some (Sum.inl [AV.str b, AV.str b_1, AV.str b_2, AV.sl (8 : Nat) b_3, AV.str b_4, AV.str b_5, AV.str b_6, AV.sl (8 : Nat) b_7, AV.bool b_8, AV.int IntKind.i64 (IntKind.wrap IntKind.i64 (n + (1 : Int)))]))))))) (some (Sum.inr (Ex.exit (0 : Nat), [AV.str b, AV.str b_1, AV.str b_2, AV.sl (8 : Nat) b_3, AV.str b_4, AV.str b_5, AV.str b_6, AV.sl (8 : Nat) b_7, AV.bool b_8, AV.int IntKind.i64 n]))))) [AV.str o1, AV.str o2, AV.str o3, AV.sl (8 : Nat) els, AV.str o1b, AV.str o2b, AV.str o3b, AV.sl (8 : Nat) elsb, AV.bool false, AV.int IntKind.i64 (0 : Int)]) fun (r : Ex × List AV) => onCons (Prod.snd r) fun (x : AV) (r_1 : List AV) => AV.onStr x fun (b : List UInt8) => onCons r_1 fun (x : AV) (r_2 : List AV) => AV.onStr x fun (b : List UInt8) => onCons r_2 fun (x : AV) (r_3 : List AV) => AV.onStr x fun (b : List UInt8) => onCons r_3 fun (x : AV) (r_4 : List AV) => AV.onSl (8 : Nat) x fun (b : List AV) => onCons r_4 fun (x : AV) (r_5 : List AV) => AV.onStr x fun (b : List UInt8) => onCons r_5 fun (x : AV) (r_6 : List AV) => AV.onStr x fun (b : List UInt8) => onCons r_6 fun (x : AV) (r_7 : List AV) => AV.onStr x fun (b : List UInt8) => onCons r_7 fun (x : AV) (r_8 : List AV) => AV.onSl (8 : Nat) x fun (b : List AV) => onCons r_8 fun (x : AV) (r_9 : List AV) => AV.onBool x fun (b : Bool) => onCons r_9 fun (x : AV) (r_10 : List AV) => AV.onInt IntKind.i64 x fun (n : Int) => onNil r_10 (exK r.1 (some (AV.bool b, [])) fun (j : Nat) => sel (Nat.beq j (0 : Nat)) (some (AV.bool true, [])) none))) := by kernel_rfl

theorem p35 (o1 o2 o3 : List UInt8) (els : List AV) (o1b o2b o3b : List UInt8) (elsb : List AV) (hpre : (els.all Kerb.isCred && decide (els.length ≤ 1000000) && elsb.all Kerb.isCred && decide (elsb.length ≤ 1000000)) = true) : runFn (G.env 35 2) G.rts (G.own 35) Tryz.f35 [.agg [.str o1, .str o2, .str o3, .sl 8 els], .agg [.str o1b, .str o2b, .str o3b, .sl 8 elsb]] [] = some (.bool (Kerb.Cache.same (Kerb.Cache.mk ⟨o1, o2, o3⟩ (els.map Kerb.toCred)) (Kerb.Cache.mk ⟨o1b, o2b, o3b⟩ (elsb.map Kerb.toCred))), []) := by
  rw [r35]
  simp only [Bool.and_eq_true, decide_eq_true_eq] at hpre
  obtain ⟨⟨⟨hall, hlen⟩, hallb⟩, hlenb⟩ := hpre
  obtain ⟨cs, rfl, hok⟩ := Kerb.creds_of hall
  obtain ⟨ds, rfl, hokd⟩ := Kerb.creds_of hallb
  unfold Kerb.Cache.same
  simp only [Kerb.map_toCred, List.length_map] at hlen hlenb ⊢
  show sel (!(Kerb.Prin.eqb ⟨o1, o2, o3⟩ ⟨o1b, o2b, o3b⟩)) _ _ = _
  cases h0 : Kerb.Prin.eqb ⟨o1, o2, o3⟩ ⟨o1b, o2b, o3b⟩
  · rfl
  rw [Bool.not_true, sel_false, Bool.true_and]
  by_cases hl : cs.length = ds.length
  case neg =>
    rw [sel_pos (by simp; omega), Kerb.sameCreds_len hl]
  rw [sel_neg (by simp; omega)]
  refine loop_rounds (fun i : Nat => [AV.str o1, AV.str o2, AV.str o3, AV.sl 8 (cs.map Kerb.Cred.av), AV.str o1b, AV.str o2b, AV.str o3b, AV.sl 8 (ds.map Kerb.Cred.av), AV.bool false, AV.int IntKind.i64 (i : Int)]) (fun i => i ≤ cs.length ∧ Kerb.sameCreds cs ds = Kerb.sameCreds (cs.drop i) (ds.drop i)) (fun i => cs.length - i)
    (fun r => ∃ (i : Nat) (f : Bool), r.2 = [AV.str o1, AV.str o2, AV.str o3, AV.sl 8 (cs.map Kerb.Cred.av), AV.str o1b, AV.str o2b, AV.str o3b, AV.sl 8 (ds.map Kerb.Cred.av), AV.bool f, AV.int IntKind.i64 (i : Int)] ∧ ((r.1 = .ret ∧ Kerb.sameCreds cs ds = f) ∨ (r.1 = .exit 0 ∧ Kerb.sameCreds cs ds = true))) 0 ⟨Nat.zero_le _, by simp⟩ rfl ?_ ?_
  · rintro i ⟨hi, hp⟩
    simp only [onInt_int, onU8_u8, onBool_bool, onStr_str, onBs_bs, onSl_sl, onAgg_agg, onTup_tup, onOwnB_ownB, onOwnL_ownL, onCons_cons, onNil_nil, onNilB_nil, onConsB_cons, chk_true, chk_bind, sel_bind, some_bind, exK_ret, exK_exit, sel_true, sel_false]
    by_cases hlt : i < cs.length
    · rw [sel_pos (by simp; omega), chk_of (by simp; omega), Int.toNat_natCast, Kerb.getD_av hlt, Kerb.getD_av (show i < ds.length by omega)]
      rw [Kerb.drop_cred hlt, Kerb.drop_cred (show i < ds.length by omega)] at hp
      generalize cs.getD i Kerb.noCred = c at hp ⊢
      generalize ds.getD i Kerb.noCred = d at hp ⊢
      simp only [Kerb.Cred.av, onInt_int, onU8_u8, onBool_bool, onStr_str, onBs_bs, onSl_sl, onAgg_agg, onTup_tup, onOwnB_ownB, onOwnL_ownL, onCons_cons, onNil_nil, onNilB_nil, onConsB_cons, chk_true, chk_bind, sel_bind, some_bind, exK_ret, exK_exit, sel_true, sel_false]
      rw [chk_of (by simp; omega)]
      show ∃ q, sel (!(Kerb.Cred.same c d)) _ _ = some q ∧ _
      have hp : Kerb.sameCreds cs ds = (Kerb.Cred.same c d && Kerb.sameCreds (cs.drop (i + 1)) (ds.drop (i + 1))) := hp
      cases he : Kerb.Cred.same c d
      · rw [he, Bool.false_and] at hp
        exact ⟨_, rfl, i, false, rfl, .inl ⟨rfl, hp⟩⟩
      · rw [he, Bool.true_and] at hp
        rw [Bool.not_true, sel_false, wrap_i64 (by omega) (by omega)]
        exact ⟨_, rfl, i + 1, rfl, ⟨by omega, hp⟩, by dsimp only; omega⟩
    · rw [sel_neg (by simp; omega)]
      refine ⟨_, rfl, i, false, rfl, .inr ⟨rfl, ?_⟩⟩
      rw [hp, List.drop_eq_nil_of_le (by omega), List.drop_eq_nil_of_le (by omega)]
      rfl
  · rintro ⟨e, l⟩ ⟨i, f, rfl, ⟨rfl, h⟩ | ⟨rfl, h⟩⟩
    · simp only [onInt_int, onU8_u8, onBool_bool, onStr_str, onBs_bs, onSl_sl, onAgg_agg, onTup_tup, onOwnB_ownB, onOwnL_ownL, onCons_cons, onNil_nil, onNilB_nil, onConsB_cons, chk_true, chk_bind, sel_bind, some_bind, exK_ret, exK_exit, sel_true, sel_false, h]
    · simp only [onInt_int, onU8_u8, onBool_bool, onStr_str, onBs_bs, onSl_sl, onAgg_agg, onTup_tup, onOwnB_ownB, onOwnL_ownL, onCons_cons, onNil_nil, onNilB_nil, onConsB_cons, chk_true, chk_bind, sel_bind, some_bind, exK_ret, exK_exit, sel_true, sel_false, h]
      rw [sel_pos (Nat.beq_refl _)]

theorem w35 : Walked Tryz.prog G 35 2 sp35 := by
  refine ⟨Tryz.f35, Tryz.func35, by decide +kernel, rfl, fun xs bl r h => ?_⟩
  unfold sp35 at h
  split at h
  · obtain ⟨h1, h2⟩ := chk_inv h; cases h2; exact p35 _ _ _ _ _ _ _ _ h1
  · cases h

/- kerbsuite/kerbsuitedata.Realm -/
theorem r40 (n : Int) : runFn (G.env 40 2) G.rts (G.own 40) Tryz.f40 [.int .i64 n] [] = chk (decide ((0 : Int) ≤ Int.tmod n (3 : Int)) && decide (Int.tmod n (3 : Int) < (↑(List.length [AV.str [(65 : UInt8), (84 : UInt8), (72 : UInt8)], AV.str [(66 : UInt8), (79 : UInt8), (83 : UInt8)], AV.str [(67 : UInt8), (65 : UInt8), (77 : UInt8)]]) : Int)) && true) (AV.onStr (List.getD [AV.str [(65 : UInt8), (84 : UInt8), (72 : UInt8)], AV.str [(66 : UInt8), (79 : UInt8), (83 : UInt8)], AV.str [(67 : UInt8), (65 : UInt8), (77 : UInt8)]] (Int.toNat (Int.tmod n (3 : Int))) AV.undef) fun (b : List UInt8) => some (AV.str b, [])) := by kernel_rfl

theorem p40 (n : Int) (hpre : (decide (0 ≤ n)) = true) : runFn (G.env 40 2) G.rts (G.own 40) Tryz.f40 [.int .i64 n] [] = some (.str (Kerb.realm n), []) := by
  rw [r40]
  have hn : 0 ≤ n := by first | exact of_decide_eq_true hpre | (simp only [Bool.and_eq_true, decide_eq_true_eq] at hpre; exact hpre.1)
  have ht : Int.tmod n 3 = n % 3 := Int.tmod_eq_emod_of_nonneg hn
  have hcase : n % 3 = 0 ∨ n % 3 = 1 ∨ n % 3 = 2 := by omega
  
  rcases hcase with e | e | e <;> simp [ht, e, chk, AV.onStr, Kerb.realm]

theorem w40 : Walked Tryz.prog G 40 2 sp40 := by
  refine ⟨Tryz.f40, Tryz.func40, by decide +kernel, rfl, fun xs bl r h => ?_⟩
  unfold sp40 at h
  split at h
  · obtain ⟨h1, h2⟩ := chk_inv h; cases h2; exact p40 _ h1
  · cases h

/- kerbsuite/client.Granter -/
theorem r53 (m1 m2 m3 x y z : List UInt8) : runFn (G.env 53 2) G.rts (G.own 53) Tryz.f53 [.agg [.str m1, .str m2, .str m3], .agg [.str x, .str y, .str z]] [] = sel (z == m3) (some (AV.agg [AV.str [(107 : UInt8), (114 : UInt8), (98 : UInt8), (116 : UInt8), (103 : UInt8), (116 : UInt8)], AV.str m3, AV.str m3], [])) (some (AV.agg [AV.str [(107 : UInt8), (114 : UInt8), (98 : UInt8), (116 : UInt8), (103 : UInt8), (116 : UInt8)], AV.str z, AV.str m3], [])) := by kernel_rfl

theorem p53 (m1 m2 m3 x y z : List UInt8) : runFn (G.env 53 2) G.rts (G.own 53) Tryz.f53 [.agg [.str m1, .str m2, .str m3], .agg [.str x, .str y, .str z]] [] = some (.agg [.str [107, 114, 98, 116, 103, 116], .str z, .str m3], []) := by
  rw [r53]
  cases h : (z == m3)
  · rfl
  · rw [eq_of_beq h]; rfl

theorem w53 : Walked Tryz.prog G 53 2 sp53 := by
  refine ⟨Tryz.f53, Tryz.func53, by decide +kernel, rfl, fun xs bl r h => ?_⟩
  unfold sp53 at h
  split at h
  · cases h; exact p53 _ _ _ _ _ _
  · cases h

/- kerbsuite/header.Put -/
theorem r97 (k : Int) (little : Bool) : runFn (G.env 97 2) G.rts (G.own 97) Tryz.f97 [.int .i64 k, .bool little] [] = sel (!Kerb.isKind k) (some (AV.bs [], [])) (sel little (some (AV.bs [(4 : UInt8), UInt8.ofNat (Int.toNat (IntKind.wrap IntKind.u8 (IntKind.wrap IntKind.i64 (IntKind.wrap IntKind.i64 ((2 : Int) * k) + (1 : Int)))))], [])) (some (AV.bs [(4 : UInt8), UInt8.ofNat (Int.toNat (IntKind.wrap IntKind.u8 (IntKind.wrap IntKind.i64 ((2 : Int) * k))))], []))) := by kernel_rfl

theorem p97 (k : Int) (little : Bool) : runFn (G.env 97 2) G.rts (G.own 97) Tryz.f97 [.int .i64 k, .bool little] [] = some (.bs (Kerb.header k little), []) := by
  rw [r97]
  by_cases h : 1 ≤ k ∧ k ≤ 10
  · have hk : k = 1 ∨ k = 2 ∨ k = 3 ∨ k = 4 ∨ k = 5 ∨ k = 6 ∨ k = 7 ∨ k = 8 ∨ k = 9 ∨ k = 10 := by omega
    rcases hk with rfl | rfl | rfl | rfl | rfl | rfl | rfl | rfl | rfl | rfl <;> cases little <;> rfl
  · have hk : Kerb.isKind k = false := by simp [Kerb.isKind]; omega
    by_cases h1 : k < 1
    · simp [sel, Kerb.header, hk, h1]
    · have h2 : 10 < k := by omega
      simp [sel, Kerb.header, hk, h1, h2]

theorem w97 : Walked Tryz.prog G 97 2 sp97 := by
  refine ⟨Tryz.f97, Tryz.func97, by decide +kernel, rfl, fun xs bl r h => ?_⟩
  unfold sp97 at h
  split at h
  · cases h; exact p97 _ _
  · cases h

/- kerbsuite/kerbsuiteref1.ValidName -/
theorem r102 (s : List UInt8) : runFn (G.env 102 2) G.rts (G.own 102) Tryz.f102 [.str s] [] = sel (decide ((↑(List.length s) : Int) > (0 : Int))) (Option.bind (chk (decide (List.length s ≤ (9223372036854775807 : Nat)) && true) (some (AV.bool (Kerb.printable s [(46 : UInt8), (64 : UInt8)] && decide (List.length s ≤ (39 : Nat))), []))) fun (r : AV × Blocks) => onNilB (Prod.snd r) (AV.onBool (Prod.fst r) fun (b : Bool) => some (AV.bool b, []))) (some (AV.bool false, [])) := by kernel_rfl

theorem p102 (s : List UInt8) (hpre : (decide (s.length ≤ 9223372036854775807)) = true) : runFn (G.env 102 2) G.rts (G.own 102) Tryz.f102 [.str s] [] = some (.bool (Kerb.validName s), []) := by
  rw [r102]
  simp only [onInt_int, onU8_u8, onBool_bool, onStr_str, onBs_bs, onSl_sl, onAgg_agg, onTup_tup, onOwnB_ownB, onOwnL_ownL, onCons_cons, onNil_nil, onNilB_nil, onConsB_cons, chk_true, chk_bind, sel_bind, some_bind, exK_ret, exK_exit, sel_true, sel_false]
  rw [chk_of (by rw [hpre]; rfl)]
  simp only [Kerb.validName]
  cases s with
  | nil => rfl
  | cons x r =>
    rw [sel_pos (by first | (simp; done) | (simp; omega)), Bool.and_comm]
    rfl

theorem w102 : Walked Tryz.prog G 102 2 sp102 := by
  refine ⟨Tryz.f102, Tryz.func102, by decide +kernel, rfl, fun xs bl r h => ?_⟩
  unfold sp102 at h
  split at h
  · obtain ⟨h1, h2⟩ := chk_inv h; cases h2; exact p102 _ h1
  · cases h

/- kerbsuite/kerbsuiteref1.ValidInstance -/
theorem r103 (s : List UInt8) : runFn (G.env 103 2) G.rts (G.own 103) Tryz.f103 [.str s] [] = Option.bind (chk (decide (List.length s ≤ (9223372036854775807 : Nat)) && true) (some (AV.bool (Kerb.printable s [(64 : UInt8)] && decide (List.length s ≤ (39 : Nat))), []))) fun (r : AV × Blocks) => onNilB (Prod.snd r) (AV.onBool (Prod.fst r) fun (b : Bool) => some (AV.bool b, [])) := by kernel_rfl

theorem p103 (s : List UInt8) (hpre : (decide (s.length ≤ 9223372036854775807)) = true) : runFn (G.env 103 2) G.rts (G.own 103) Tryz.f103 [.str s] [] = some (.bool (Kerb.validInst s), []) := by
  rw [r103]
  simp only [onInt_int, onU8_u8, onBool_bool, onStr_str, onBs_bs, onSl_sl, onAgg_agg, onTup_tup, onOwnB_ownB, onOwnL_ownL, onCons_cons, onNil_nil, onNilB_nil, onConsB_cons, chk_true, chk_bind, sel_bind, some_bind, exK_ret, exK_exit, sel_true, sel_false]
  rw [chk_of (by rw [hpre]; rfl), Bool.and_comm]
  rfl

theorem w103 : Walked Tryz.prog G 103 2 sp103 := by
  refine ⟨Tryz.f103, Tryz.func103, by decide +kernel, rfl, fun xs bl r h => ?_⟩
  unfold sp103 at h
  split at h
  · obtain ⟨h1, h2⟩ := chk_inv h; cases h2; exact p103 _ h1
  · cases h

/- kerbsuite/kerbsuiteref5.PutPrincipal -/
theorem r105 (b x y z : List UInt8) : runFn (G.env 105 2) G.rts (G.own 105) Tryz.f105 [.bs b, .agg [.str x, .str y, .str z]] [] = Option.bind (chk (decide (List.length b + List.length x ≤ (70368744177664 : Nat))) (some (AV.bs (Kerb.putText b x), []))) fun (r : AV × Blocks) => onNilB (Prod.snd r) (AV.onBs (Prod.fst r) fun (b : List UInt8) => Option.bind (chk (decide (List.length b + List.length y ≤ (70368744177664 : Nat))) (some (AV.bs (Kerb.putText b y), []))) fun (r : AV × Blocks) => onNilB (Prod.snd r) (AV.onBs (Prod.fst r) fun (b : List UInt8) => Option.bind (chk (decide (List.length b + List.length z ≤ (70368744177664 : Nat))) (some (AV.bs (Kerb.putText b z), []))) fun (r : AV × Blocks) => onNilB (Prod.snd r) (AV.onBs (Prod.fst r) fun (b : List UInt8) => some (AV.bs b, [])))) := by kernel_rfl

theorem p105 (b x y z : List UInt8) (hpre : (decide (b.length + x.length + y.length + z.length ≤ 70368744170000)) = true) : runFn (G.env 105 2) G.rts (G.own 105) Tryz.f105 [.bs b, .agg [.str x, .str y, .str z]] [] = some (.bs (Kerb.putPrin b ⟨x, y, z⟩), []) := by
  rw [r105]
  simp only [decide_eq_true_eq] at hpre
  simp only [onInt_int, onU8_u8, onBool_bool, onStr_str, onBs_bs, onSl_sl, onAgg_agg, onTup_tup, onOwnB_ownB, onOwnL_ownL, onCons_cons, onNil_nil, onNilB_nil, onConsB_cons, chk_true, chk_bind, sel_bind, some_bind, exK_ret, exK_exit, sel_true, sel_false]
  rw [chk_of (by simp; omega), chk_of (by simp [Kerb.putText]; omega), chk_of (by simp [Kerb.putText]; omega)]
  rfl

theorem w105 : Walked Tryz.prog G 105 2 sp105 := by
  refine ⟨Tryz.f105, Tryz.func105, by decide +kernel, rfl, fun xs bl r h => ?_⟩
  unfold sp105 at h
  split at h
  · obtain ⟨h1, h2⟩ := chk_inv h; cases h2; exact p105 _ _ _ _ h1
  · cases h

/- kerbsuite/kerbsuiteref5.PutOctet -/
theorem r107 (b : List UInt8) (n : Int) : runFn (G.env 107 2) G.rts (G.own 107) Tryz.f107 [.bs b, .int .i64 n] [] = Option.bind (chk (decide (List.length b ≤ (70368744177664 : Nat))) (some (AV.ownB (b ++ Kerb.putN n (Int.toNat (1 : Int)) false), []))) fun (r : AV × Blocks) => onNilB (Prod.snd r) (AV.onOwnB (Prod.fst r) fun (l : List UInt8) => some (AV.ownB l, [])) := by kernel_rfl

theorem p107 (b : List UInt8) (n : Int) (hpre : (decide (b.length ≤ 70368744177664)) = true) : runFn (G.env 107 2) G.rts (G.own 107) Tryz.f107 [.bs b, .int .i64 n] [] = some (.ownB (b ++ Kerb.putN n 1 false), []) := by
  rw [r107]
  simp only [decide_eq_true_eq] at hpre
  simp only [onInt_int, onU8_u8, onBool_bool, onStr_str, onBs_bs, onSl_sl, onAgg_agg, onTup_tup, onOwnB_ownB, onOwnL_ownL, onCons_cons, onNil_nil, onNilB_nil, onConsB_cons, chk_true, chk_bind, sel_bind, some_bind, exK_ret, exK_exit, sel_true, sel_false]
  rw [chk_of (by simp; omega)]
  rfl

theorem w107 : Walked Tryz.prog G 107 2 sp107 := by
  refine ⟨Tryz.f107, Tryz.func107, by decide +kernel, rfl, fun xs bl r h => ?_⟩
  unfold sp107 at h
  split at h
  · obtain ⟨h1, h2⟩ := chk_inv h; cases h2; exact p107 _ _ h1
  · cases h

/- kerbsuite/kerbsuiteref5.PutNumber -/
theorem r108 (b : List UInt8) (n : Int) (little : Bool) : runFn (G.env 108 2) G.rts (G.own 108) Tryz.f108 [.bs b, .int .i64 n, .bool little] [] = Option.bind (chk (decide (List.length b ≤ (70368744177664 : Nat))) (some (AV.ownB (b ++ Kerb.putN n (Int.toNat (4 : Int)) little), []))) fun (r : AV × Blocks) => onNilB (Prod.snd r) (AV.onOwnB (Prod.fst r) fun (l : List UInt8) => some (AV.ownB l, [])) := by kernel_rfl

theorem p108 (b : List UInt8) (n : Int) (little : Bool) (hpre : (decide (b.length ≤ 70368744177664)) = true) : runFn (G.env 108 2) G.rts (G.own 108) Tryz.f108 [.bs b, .int .i64 n, .bool little] [] = some (.ownB (b ++ Kerb.putN n 4 little), []) := by
  rw [r108]
  simp only [decide_eq_true_eq] at hpre
  simp only [onInt_int, onU8_u8, onBool_bool, onStr_str, onBs_bs, onSl_sl, onAgg_agg, onTup_tup, onOwnB_ownB, onOwnL_ownL, onCons_cons, onNil_nil, onNilB_nil, onConsB_cons, chk_true, chk_bind, sel_bind, some_bind, exK_ret, exK_exit, sel_true, sel_false]
  rw [chk_of (by simp; omega)]
  rfl

theorem w108 : Walked Tryz.prog G 108 2 sp108 := by
  refine ⟨Tryz.f108, Tryz.func108, by decide +kernel, rfl, fun xs bl r h => ?_⟩
  unfold sp108 at h
  split at h
  · obtain ⟨h1, h2⟩ := chk_inv h; cases h2; exact p108 _ _ _ h1
  · cases h

/- kerbsuite/kerbsuiteref1.ValidRealm -/
theorem r115 (s : List UInt8) : runFn (G.env 115 2) G.rts (G.own 115) Tryz.f115 [.str s] [] = sel (decide ((↑(List.length s) : Int) > (0 : Int))) (Option.bind (chk (decide (List.length s ≤ (9223372036854775807 : Nat)) && true) (some (AV.bool (Kerb.printable s [(64 : UInt8)] && decide (List.length s ≤ (39 : Nat))), []))) fun (r : AV × Blocks) => onNilB (Prod.snd r) (AV.onBool (Prod.fst r) fun (b : Bool) => some (AV.bool b, []))) (some (AV.bool false, [])) := by kernel_rfl

theorem p115 (s : List UInt8) (hpre : (decide (s.length ≤ 9223372036854775807)) = true) : runFn (G.env 115 2) G.rts (G.own 115) Tryz.f115 [.str s] [] = some (.bool (Kerb.validRealm s), []) := by
  rw [r115]
  simp only [onInt_int, onU8_u8, onBool_bool, onStr_str, onBs_bs, onSl_sl, onAgg_agg, onTup_tup, onOwnB_ownB, onOwnL_ownL, onCons_cons, onNil_nil, onNilB_nil, onConsB_cons, chk_true, chk_bind, sel_bind, some_bind, exK_ret, exK_exit, sel_true, sel_false]
  rw [chk_of (by rw [hpre]; rfl)]
  simp only [Kerb.validRealm]
  cases s with
  | nil => rfl
  | cons x r =>
    rw [sel_pos (by first | (simp; done) | (simp; omega)), Bool.and_comm]
    rfl

theorem w115 : Walked Tryz.prog G 115 2 sp115 := by
  refine ⟨Tryz.f115, Tryz.func115, by decide +kernel, rfl, fun xs bl r h => ?_⟩
  unfold sp115 at h
  split at h
  · obtain ⟨h1, h2⟩ := chk_inv h; cases h2; exact p115 _ h1
  · cases h

/- slices.Concat[[]byte,byte] -/
theorem r119 (els : List AV) : runFn (G.env 119 2) G.rts (G.own 119) Tryz.f119 [.sl 1 els] [] = Option.bind (loopM (fun (st : List AV) => onCons st fun (x : AV) (r : List AV) => AV.onSl (1 : Nat) x fun (b : List AV) => onCons r fun (x : AV) (r : List AV) => AV.onInt IntKind.i64 x fun (n : Int) => onCons r fun (x : AV) (r : List AV) => AV.onSl (1 : Nat) x fun (b_1 : List AV) => onCons r fun (x : AV) (r : List AV) => AV.onInt IntKind.i64 x fun (n_1 : Int) => onCons r fun (x : AV) (r : List AV) => AV.onInt IntKind.i64 x fun (n_2 : Int) => onNil r (sel (decide (n_2 < n_1)) (chk (decide ((0 : Int) ≤ n_2) && decide (n_2 < (↑(List.length b_1) : Int)) && true) (AV.onBs (List.getD b_1 (Int.toNat n_2) AV.undef) fun (b_2 : List UInt8) => sel (decide (IntKind.wrap IntKind.i64 (n + (↑(List.length b_2) : Int)) < (0 : Int))) none (some (Sum.inl [AV.sl (1 : Nat) b, AV.int IntKind.i64 (IntKind.wrap IntKind.i64 (n + (↑(List.length b_2) : Int))), AV.sl (1 : Nat) b_1, AV.int IntKind.i64 n_1, AV.int IntKind.i64 (IntKind.wrap IntKind.i64 (n_2 + (1 : Int)))])))) (some (Sum.inr (Ex.exit (0 : Nat), [AV.sl (1 : Nat) b, AV.int IntKind.i64 n, AV.sl (1 : Nat) b_1, AV.int IntKind.i64 n_1, AV.int IntKind.i64 n_2]))))) [AV.sl (1 : Nat) els, AV.int IntKind.i64 (0 : Int), AV.sl (1 : Nat) els, AV.int IntKind.i64 (↑(List.length els) : Int), AV.int IntKind.i64 (0 : Int)]) fun (r : Ex × List AV) => onCons (Prod.snd r) fun (x : AV) (r_1 : List AV) => AV.onSl (1 : Nat) x fun (b : List AV) => onCons r_1 fun (x : AV) (r_2 : List AV) => AV.onInt IntKind.i64 x fun (n : Int) => onCons r_2 fun (x : AV) (r_3 : List AV) => AV.onSl (1 : Nat) x fun (b_1 : List AV) => onCons r_3 fun (x : AV) (r_4 : List AV) => AV.onInt IntKind.i64 x fun (n_1 : Int) => onCons r_4 fun (x : AV) (r_5 : List AV) => AV.onInt IntKind.i64 x fun (n_2 : Int) => onNil r_5 (exK r.1 none fun (j : Nat) => sel (Nat.beq j (0 : Nat)) (Option.bind (chk (decide ((0 : Int) ≤ n) && decide (n ≤ (140737488355328 : Int))) (some (AV.ownB [], []))) fun (r : AV × Blocks) => onNilB (Prod.snd r) (AV.onOwnB (Prod.fst r) fun (l : List UInt8) => Option.bind (loopM (fun (st : List AV) => onCons st fun (x : AV) (r : List AV) => AV.onOwnB x fun (b : List UInt8) => onCons r fun (x : AV) (r : List AV) => AV.onSl (1 : Nat) x fun (b_2 : List AV) => onCons r fun (x : AV) (r : List AV) => AV.onInt IntKind.i64 x fun (n : Int) => onCons r fun (x : AV) (r : List AV) => AV.onInt IntKind.i64 x fun (n_3 : Int) => onNil r (sel (decide (n_3 < n)) (chk (decide ((0 : Int) ≤ n_3) && decide (n_3 < (↑(List.length b_2) : Int)) && true) (AV.onBs (List.getD b_2 (Int.toNat n_3) AV.undef) fun (b_3 : List UInt8) => chk (room (List.length b + List.length b_3) (1 : Nat)) (some (Sum.inl [AV.ownB (b ++ b_3), AV.sl (1 : Nat) b_2, AV.int IntKind.i64 n, AV.int IntKind.i64 (IntKind.wrap IntKind.i64 (n_3 + (1 : Int)))])))) (some (Sum.inr (Ex.exit (2 : Nat), [AV.ownB b, AV.sl (1 : Nat) b_2, AV.int IntKind.i64 n, AV.int IntKind.i64 n_3]))))) [AV.ownB l, AV.sl (1 : Nat) b, AV.int IntKind.i64 (↑(List.length b) : Int), AV.int IntKind.i64 (0 : Int)]) fun (r : Ex × List AV) => onCons (Prod.snd r) fun (x : AV) (r_6 : List AV) => AV.onOwnB x fun (b : List UInt8) => onCons r_6 fun (x : AV) (r_7 : List AV) => AV.onSl (1 : Nat) x fun (b_2 : List AV) => onCons r_7 fun (x : AV) (r_8 : List AV) => AV.onInt IntKind.i64 x fun (n : Int) => onCons r_8 fun (x : AV) (r_9 : List AV) => AV.onInt IntKind.i64 x fun (n : Int) => onNil r_9 (exK r.1 none fun (j : Nat) => sel (Nat.beq j (2 : Nat)) (some (AV.ownB b, [])) none))) none) := by kernel_rfl

theorem p119 (els : List AV) (hpre : (allB els && decide ((catB els).length ≤ 140737488355328) && decide (els.length ≤ 1000)) = true) : runFn (G.env 119 2) G.rts (G.own 119) Tryz.f119 [.sl 1 els] [] = some (.ownB (catB els), []) := by
  rw [r119]
  simp only [Bool.and_eq_true, decide_eq_true_eq] at hpre
  obtain ⟨⟨ha, hl⟩, hbig⟩ := hpre
  refine loop_rounds (fun i : Nat => [AV.sl 1 els, AV.int IntKind.i64 ((catB (els.take i)).length : Int), AV.sl 1 els, AV.int IntKind.i64 (els.length : Int), AV.int IntKind.i64 (i : Int)]) (fun i => i ≤ els.length) (fun i => els.length - i)
    (fun r => r = (Ex.exit 0, [AV.sl 1 els, AV.int IntKind.i64 ((catB els).length : Int), AV.sl 1 els, AV.int IntKind.i64 (els.length : Int), AV.int IntKind.i64 (els.length : Int)])) 0 (Nat.zero_le _) rfl ?_ ?_
  · intro i hi
    simp only [onInt_int, onU8_u8, onBool_bool, onStr_str, onBs_bs, onSl_sl, onAgg_agg, onTup_tup, onOwnB_ownB, onOwnL_ownL, onCons_cons, onNil_nil, onNilB_nil, onConsB_cons, chk_true, chk_bind, sel_bind, some_bind, exK_ret, exK_exit, sel_true, sel_false]
    by_cases hlt : i < els.length
    · obtain ⟨l, h1, h2, h3⟩ := Kerb.cat_step ha hlt
      rw [sel_pos (by simp; omega), chk_of (by simp; omega), Int.toNat_natCast, h1, onBs_bs, wrap_i64 (n := ((catB (els.take i)).length : Int) + (l.length : Int)) (by omega) (by omega), sel_neg (by simp; omega), wrap_i64 (by omega) (by omega)]
      refine ⟨_, rfl, i + 1, ?_, by omega, by dsimp only; omega⟩
      dsimp only
      rw [h2, List.length_append, Int.natCast_add]
      rfl
    · rw [sel_neg (by simp; omega)]
      refine ⟨_, rfl, ?_⟩
      show _ = _
      rw [List.take_of_length_le (by omega), show i = els.length from by omega]
  rintro r rfl
  simp only [onInt_int, onU8_u8, onBool_bool, onStr_str, onBs_bs, onSl_sl, onAgg_agg, onTup_tup, onOwnB_ownB, onOwnL_ownL, onCons_cons, onNil_nil, onNilB_nil, onConsB_cons, chk_true, chk_bind, sel_bind, some_bind, exK_ret, exK_exit, sel_true, sel_false]
  rw [sel_pos (Nat.beq_refl _), chk_of (by simp; omega)]
  refine loop_rounds (fun i : Nat => [AV.ownB (catB (els.take i)), AV.sl 1 els, AV.int IntKind.i64 (els.length : Int), AV.int IntKind.i64 (i : Int)]) (fun i => i ≤ els.length) (fun i => els.length - i)
    (fun r => r = (Ex.exit 2, [AV.ownB (catB els), AV.sl 1 els, AV.int IntKind.i64 (els.length : Int), AV.int IntKind.i64 (els.length : Int)])) 0 (Nat.zero_le _) rfl ?_ ?_
  · intro i hi
    simp only [onInt_int, onU8_u8, onBool_bool, onStr_str, onBs_bs, onSl_sl, onAgg_agg, onTup_tup, onOwnB_ownB, onOwnL_ownL, onCons_cons, onNil_nil, onNilB_nil, onConsB_cons, chk_true, chk_bind, sel_bind, some_bind, exK_ret, exK_exit, sel_true, sel_false]
    by_cases hlt : i < els.length
    · obtain ⟨l, h1, h2, h3⟩ := Kerb.cat_step ha hlt
      rw [sel_pos (by simp; omega), chk_of (by simp; omega), Int.toNat_natCast, h1, onBs_bs, chk_of (Kerb.room_ok (by omega)), wrap_i64 (by omega) (by omega)]
      refine ⟨_, rfl, i + 1, ?_, by omega, by dsimp only; omega⟩
      dsimp only
      rw [h2]
      rfl
    · rw [sel_neg (by simp; omega)]
      refine ⟨_, rfl, ?_⟩
      show _ = _
      rw [List.take_of_length_le (by omega), show i = els.length from by omega]
  rintro r rfl
  simp only [onInt_int, onU8_u8, onBool_bool, onStr_str, onBs_bs, onSl_sl, onAgg_agg, onTup_tup, onOwnB_ownB, onOwnL_ownL, onCons_cons, onNil_nil, onNilB_nil, onConsB_cons, chk_true, chk_bind, sel_bind, some_bind, exK_ret, exK_exit, sel_true, sel_false]
  rw [sel_pos (Nat.beq_refl _)]

theorem w119 : Walked Tryz.prog G 119 2 sp119 := by
  refine ⟨Tryz.f119, Tryz.func119, by decide +kernel, rfl, fun xs bl r h => ?_⟩
  unfold sp119 at h
  split at h
  · obtain ⟨h1, h2⟩ := chk_inv h; cases h2; exact p119 _ h1
  · cases h

/- kerbsuite/kerbsuiteref3.Valid -/
theorem r127 (k : Int) : runFn (G.env 127 2) G.rts (G.own 127) Tryz.f127 [.int .u64 k] [] = sel (!k == (0 : Int)) (some (AV.bool ((bif Kerb.isClass (IntKind.wrap IntKind.i64 (Int.fdiv k ((2 : Int) ^ min (Int.toNat (56 : Int)) (IntKind.bits IntKind.u64)))) && Kerb.isSerial (IntKind.wrap IntKind.i64 (IntKind.wrap IntKind.u64 (↑(BitVec.toNat (BitVec.ofInt (IntKind.bits IntKind.u64) k &&& BitVec.ofInt (IntKind.bits IntKind.u64) (72057594037927935 : Int))) : Int))) then IntKind.wrap IntKind.i64 (Int.fdiv k ((2 : Int) ^ min (Int.toNat (56 : Int)) (IntKind.bits IntKind.u64))) * (72057594037927936 : Int) + IntKind.wrap IntKind.i64 (IntKind.wrap IntKind.u64 (↑(BitVec.toNat (BitVec.ofInt (IntKind.bits IntKind.u64) k &&& BitVec.ofInt (IntKind.bits IntKind.u64) (72057594037927935 : Int))) : Int)) else (0 : Int)) == k), [])) (some (AV.bool false, [])) := by kernel_rfl

theorem p127 (k : Int) (hpre : (decide (0 ≤ k) && decide (k < 18446744073709551616)) = true) : runFn (G.env 127 2) G.rts (G.own 127) Tryz.f127 [.int .u64 k] [] = some (.bool (Kerb.keyValid k), []) := by
  rw [r127]
  simp only [Bool.and_eq_true, decide_eq_true_eq] at hpre
  obtain ⟨h0, h1⟩ := hpre
  
  rw [Kerb.key_hi h0 h1, Kerb.key_lo h0 h1, Kerb.key_sum]
  by_cases hk : k = 0
  · subst hk; rfl
  rw [sel_pos (by simpa using hk)]
  unfold Kerb.keyValid
  cases Kerb.isClass (Kerb.keyClass k) && Kerb.isSerial (Kerb.keySerial k)
  · have q : ((0 : Int) == k) = false := by simp; omega
    simp only [cond_false, q]
  · simp only [cond_true, BEq.rfl]

theorem w127 : Walked Tryz.prog G 127 2 sp127 := by
  refine ⟨Tryz.f127, Tryz.func127, by decide +kernel, rfl, fun xs bl r h => ?_⟩
  unfold sp127 at h
  split at h
  · obtain ⟨h1, h2⟩ := chk_inv h; cases h2; exact p127 _ h1
  · cases h

/- kerbsuite/ccache.fresh -/
theorem r151 (x y z : List UInt8) (k lf kv iss : Int) (tk : List UInt8) : runFn (G.env 151 2) G.rts (G.own 151) Tryz.f151 [.agg [.str x, .str y, .str z, .int .u64 k, .int .i64 lf, .int .i64 kv, .int .i64 iss, .bs tk]] [] = Option.bind (chk (decide (List.length tk ≤ (140737488355328 : Nat))) (some (AV.bs tk, []))) fun (r : AV × Blocks) => onNilB (Prod.snd r) (AV.onBs (Prod.fst r) fun (b : List UInt8) => some (AV.agg [AV.str x, AV.str y, AV.str z, AV.int IntKind.u64 k, AV.int IntKind.i64 lf, AV.int IntKind.i64 kv, AV.int IntKind.i64 iss, AV.bs b], [])) := by kernel_rfl

theorem p151 (x y z : List UInt8) (k lf kv iss : Int) (tk : List UInt8) (hpre : (decide (tk.length ≤ 140737488355328)) = true) : runFn (G.env 151 2) G.rts (G.own 151) Tryz.f151 [.agg [.str x, .str y, .str z, .int .u64 k, .int .i64 lf, .int .i64 kv, .int .i64 iss, .bs tk]] [] = some (.agg [.str x, .str y, .str z, .int .u64 k, .int .i64 lf, .int .i64 kv, .int .i64 iss, .bs tk], []) := by
  rw [r151]
  simp only [onInt_int, onU8_u8, onBool_bool, onStr_str, onBs_bs, onSl_sl, onAgg_agg, onTup_tup, onOwnB_ownB, onOwnL_ownL, onCons_cons, onNil_nil, onNilB_nil, onConsB_cons, chk_true, chk_bind, sel_bind, some_bind, exK_ret, exK_exit, sel_true, sel_false, hpre]

theorem w151 : Walked Tryz.prog G 151 2 sp151 := by
  refine ⟨Tryz.f151, Tryz.func151, by decide +kernel, rfl, fun xs bl r h => ?_⟩
  unfold sp151 at h
  split at h
  · obtain ⟨h1, h2⟩ := chk_inv h; cases h2; exact p151 _ _ _ _ _ _ _ _ h1
  · cases h

/- kerbsuite/lifetime.End -/
theorem r163 (i l : Int) : runFn (G.env 163 2) G.rts (G.own 163) Tryz.f163 [.int .i64 i, .int .i64 l] [] = sel (!Kerb.within i (4294967295 : Int)) (some (AV.int IntKind.i64 (0 : Int), [])) (sel (!Kerb.within l (255 : Int)) (some (AV.int IntKind.i64 (0 : Int), [])) (some (AV.int IntKind.i64 (IntKind.wrap IntKind.i64 (i + IntKind.wrap IntKind.i64 ((300 : Int) * IntKind.wrap IntKind.i64 (l + (1 : Int))))), []))) := by kernel_rfl

theorem p163 (i l : Int) : runFn (G.env 163 2) G.rts (G.own 163) Tryz.f163 [.int .i64 i, .int .i64 l] [] = some (.int .i64 (Kerb.tEnd i l), []) := by
  rw [r163]
  unfold Kerb.tEnd
  cases h1 : Kerb.within i 4294967295
  · rfl
  cases h2 : Kerb.within l 255
  · rfl
  have a1 := Kerb.within_iff.1 h1
  have a2 := Kerb.within_iff.1 h2
  simp only [Bool.not_true, sel_false, Bool.and_self, if_true]
  rw [wrap_i64 (n := l + 1) (by omega) (by omega), wrap_i64 (n := 300 * (l + 1)) (by omega) (by omega), wrap_i64 (by omega) (by omega)]

theorem w163 : Walked Tryz.prog G 163 2 sp163 := by
  refine ⟨Tryz.f163, Tryz.func163, by decide +kernel, rfl, fun xs bl r h => ?_⟩
  unfold sp163 at h
  split at h
  · cases h; exact p163 _ _
  · cases h

/- kerbsuite/kerbsuiteref2.End -/
theorem r166 (i l : Int) : runFn (G.env 166 2) G.rts (G.own 166) Tryz.f166 [.int .i64 i, .int .i64 l] [] = sel (!Kerb.within i (4294967295 : Int)) (some (AV.int IntKind.i64 (0 : Int), [])) (sel (decide (l < (0 : Int))) (some (AV.int IntKind.i64 (0 : Int), [])) (sel (decide (l > (255 : Int))) (some (AV.int IntKind.i64 (0 : Int), [])) (some (AV.int IntKind.i64 (IntKind.wrap IntKind.i64 (i + IntKind.wrap IntKind.i64 ((300 : Int) * IntKind.wrap IntKind.i64 (l + (1 : Int))))), [])))) := by kernel_rfl

theorem p166 (i l : Int) : runFn (G.env 166 2) G.rts (G.own 166) Tryz.f166 [.int .i64 i, .int .i64 l] [] = some (.int .i64 (Kerb.tEnd i l), []) := by
  rw [r166]
  unfold Kerb.tEnd
  cases h1 : Kerb.within i 4294967295
  · rfl
  have a1 := Kerb.within_iff.1 h1
  by_cases h2 : 0 ≤ l ∧ l ≤ 255
  · have e : Kerb.within l 255 = true := Kerb.within_iff.2 h2
    rw [e]
    simp only [Bool.not_true, sel_false, Bool.and_self, if_true]
    rw [sel_neg (by simp; omega), sel_neg (by simp; omega), wrap_i64 (n := l + 1) (by omega) (by omega), wrap_i64 (n := 300 * (l + 1)) (by omega) (by omega), wrap_i64 (by omega) (by omega)]
  · have e : Kerb.within l 255 = false := by simp [Kerb.within]; omega
    rw [e]
    by_cases h3 : l < 0
    · rw [Bool.not_true, sel_false, sel_pos (by simpa using h3)]; rfl
    · rw [Bool.not_true, sel_false, sel_neg (by simpa using h3), sel_pos (by simp; omega)]; rfl

theorem w166 : Walked Tryz.prog G 166 2 sp166 := by
  refine ⟨Tryz.f166, Tryz.func166, by decide +kernel, rfl, fun xs bl r h => ?_⟩
  unfold sp166 at h
  split at h
  · cases h; exact p166 _ _
  · cases h

/- kerbsuite/key.split -/
theorem r189 (k : Int) : runFn (G.env 189 2) G.rts (G.own 189) Tryz.f189 [.int .u64 k] [] = sel (!Kerb.isClass (IntKind.wrap IntKind.i64 (Int.fdiv k ((2 : Int) ^ min (Int.toNat (56 : Int)) (IntKind.bits IntKind.u64))))) (some (AV.tup [AV.int IntKind.i64 (0 : Int), AV.int IntKind.i64 (0 : Int), AV.bool false], [])) (sel (!Kerb.isSerial (IntKind.wrap IntKind.i64 (IntKind.wrap IntKind.u64 (↑(BitVec.toNat (BitVec.ofInt (IntKind.bits IntKind.u64) k &&& BitVec.ofInt (IntKind.bits IntKind.u64) (72057594037927935 : Int))) : Int)))) (some (AV.tup [AV.int IntKind.i64 (0 : Int), AV.int IntKind.i64 (0 : Int), AV.bool false], [])) (some (AV.tup [AV.int IntKind.i64 (IntKind.wrap IntKind.i64 (Int.fdiv k ((2 : Int) ^ min (Int.toNat (56 : Int)) (IntKind.bits IntKind.u64)))), AV.int IntKind.i64 (IntKind.wrap IntKind.i64 (IntKind.wrap IntKind.u64 (↑(BitVec.toNat (BitVec.ofInt (IntKind.bits IntKind.u64) k &&& BitVec.ofInt (IntKind.bits IntKind.u64) (72057594037927935 : Int))) : Int))), AV.bool true], []))) := by kernel_rfl

theorem p189 (k : Int) (hpre : (decide (0 ≤ k) && decide (k < 18446744073709551616)) = true) : runFn (G.env 189 2) G.rts (G.own 189) Tryz.f189 [.int .u64 k] [] = some (.tup [.int .i64 (cond (Kerb.keyValid k) (Kerb.keyClass k) 0), .int .i64 (cond (Kerb.keyValid k) (Kerb.keySerial k) 0), .bool (Kerb.keyValid k)], []) := by
  rw [r189]
  simp only [Bool.and_eq_true, decide_eq_true_eq] at hpre
  obtain ⟨h0, h1⟩ := hpre
  
  rw [Kerb.key_hi h0 h1, Kerb.key_lo h0 h1]
  unfold Kerb.keyValid
  cases Kerb.isClass (Kerb.keyClass k)
  · rfl
  cases Kerb.isSerial (Kerb.keySerial k) <;> rfl

theorem w189 : Walked Tryz.prog G 189 2 sp189 := by
  refine ⟨Tryz.f189, Tryz.func189, by decide +kernel, rfl, fun xs bl r h => ?_⟩
  unfold sp189 at h
  split at h
  · obtain ⟨h1, h2⟩ := chk_inv h; cases h2; exact p189 _ h1
  · cases h

/- internal/stringslite.IndexByte -/
theorem r196 (s : List UInt8) (c : UInt8) : runFn (G.env 196 2) G.rts (G.own 196) Tryz.f196 [.str s, .u8 c] [] = some (AV.int IntKind.i64 (Kerb.indexOf c s), []) := by kernel_rfl

theorem p196 (s : List UInt8) (c : UInt8) : runFn (G.env 196 2) G.rts (G.own 196) Tryz.f196 [.str s, .u8 c] [] = some (.int .i64 (Kerb.indexOf c s), []) := by
  rw [r196]


theorem w196 : Walked Tryz.prog G 196 2 sp196 := by
  refine ⟨Tryz.f196, Tryz.func196, by decide +kernel, rfl, fun xs bl r h => ?_⟩
  unfold sp196 at h
  split at h
  · cases h; exact p196 _ _
  · cases h

/- kerbsuite/kerbsuitedata.Service -/
theorem r12 (n : Int) : runFn (G.env 12 3) G.rts (G.own 12) Tryz.f12 [.int .i64 n] [] = chk (decide ((0 : Int) ≤ Int.tmod n (3 : Int)) && decide (Int.tmod n (3 : Int) < (↑(List.length [AV.agg [AV.str [(109 : UInt8), (97 : UInt8), (105 : UInt8), (108 : UInt8)], AV.str [], AV.str []], AV.agg [AV.str [(110 : UInt8), (102 : UInt8), (115 : UInt8)], AV.str [(104 : UInt8), (111 : UInt8), (109 : UInt8), (101 : UInt8)], AV.str []], AV.agg [AV.str [(107 : UInt8), (114 : UInt8), (98 : UInt8), (116 : UInt8), (103 : UInt8), (116 : UInt8)], AV.str [(65 : UInt8), (84 : UInt8), (72 : UInt8)], AV.str []]]) : Int)) && true) (AV.onAgg (List.getD [AV.agg [AV.str [(109 : UInt8), (97 : UInt8), (105 : UInt8), (108 : UInt8)], AV.str [], AV.str []], AV.agg [AV.str [(110 : UInt8), (102 : UInt8), (115 : UInt8)], AV.str [(104 : UInt8), (111 : UInt8), (109 : UInt8), (101 : UInt8)], AV.str []], AV.agg [AV.str [(107 : UInt8), (114 : UInt8), (98 : UInt8), (116 : UInt8), (103 : UInt8), (116 : UInt8)], AV.str [(65 : UInt8), (84 : UInt8), (72 : UInt8)], AV.str []]] (Int.toNat (Int.tmod n (3 : Int))) AV.undef) fun (cs : List AV) => onCons cs fun (x : AV) (r : List AV) => AV.onStr x fun (b : List UInt8) => onCons r fun (x : AV) (r : List AV) => AV.onStr x fun (b_1 : List UInt8) => onCons r fun (x : AV) (r : List AV) => AV.onStr x fun (b_2 : List UInt8) => onNil r (Option.bind (chk (decide ((0 : Int) ≤ IntKind.wrap IntKind.i64 (Int.tdiv n (3 : Int)))) (some (AV.str (Kerb.realm (IntKind.wrap IntKind.i64 (Int.tdiv n (3 : Int)))), []))) fun (r : AV × Blocks) => onNilB (Prod.snd r) (AV.onStr (Prod.fst r) fun (b_3 : List UInt8) => some (AV.agg [AV.str b, AV.str b_1, AV.str b_3], [])))) := by kernel_rfl

theorem p12 (n : Int) (hpre : (decide (0 ≤ n) && decide (n ≤ 4611686018427387904)) = true) : runFn (G.env 12 3) G.rts (G.own 12) Tryz.f12 [.int .i64 n] [] = some (.agg [.str (Kerb.service n).name, .str (Kerb.service n).inst, .str (Kerb.service n).realm], []) := by
  rw [r12]
  have hn : 0 ≤ n := by first | exact of_decide_eq_true hpre | (simp only [Bool.and_eq_true, decide_eq_true_eq] at hpre; exact hpre.1)
  have ht : Int.tmod n 3 = n % 3 := Int.tmod_eq_emod_of_nonneg hn
  have hcase : n % 3 = 0 ∨ n % 3 = 1 ∨ n % 3 = 2 := by omega
  
  simp only [Bool.and_eq_true, decide_eq_true_eq] at hpre
  have hd : Int.tdiv n 3 = n / 3 := Int.tdiv_eq_ediv_of_nonneg hn
  rw [hd, wrap_i64 (by omega) (by omega)]
  have hq : decide ((0 : Int) ≤ n / 3) = true := by simp; omega
  
  rcases hcase with e | e | e <;> simp [ht, e, chk, AV.onStr, AV.onAgg, onCons, onNil, Kerb.service, hq, onNilB] <;> omega

theorem w12 : Walked Tryz.prog G 12 3 sp12 := by
  refine ⟨Tryz.f12, Tryz.func12, by decide +kernel, rfl, fun xs bl r h => ?_⟩
  unfold sp12 at h
  split at h
  · obtain ⟨h1, h2⟩ := chk_inv h; cases h2; exact p12 _ h1
  · cases h

/- kerbsuite/kerbsuiteref20.Same -/
theorem r15 (m1 m2 m3 : List UInt8) (ad sk : Int) (li : Bool) (o1 o2 o3 : List UInt8) (els : List AV) (wt : Int) (w1 w2 w3 : List UInt8) (se tm lf cs tc : Int) (m1b m2b m3b : List UInt8) (adb skb : Int) (lib : Bool) (o1b o2b o3b : List UInt8) (elsb : List AV) (wtb : Int) (w1b w2b w3b : List UInt8) (seb tmb lfb csb tcb : Int) : runFn (G.env 15 3) G.rts (G.own 15) Tryz.f15 [.agg [.str m1, .str m2, .str m3, .int .i64 ad, .int .i64 sk, .bool li, .str o1, .str o2, .str o3, .sl 8 els, .int .i64 wt, .str w1, .str w2, .str w3, .int .u64 se, .int .i64 tm, .int .i64 lf, .int .i64 cs, .int .i64 tc], .agg [.str m1b, .str m2b, .str m3b, .int .i64 adb, .int .i64 skb, .bool lib, .str o1b, .str o2b, .str o3b, .sl 8 elsb, .int .i64 wtb, .str w1b, .str w2b, .str w3b, .int .u64 seb, .int .i64 tmb, .int .i64 lfb, .int .i64 csb, .int .i64 tcb]] [] = sel (m1 == m1b && (m2 == m2b && m3 == m3b)) (sel (ad == adb) (sel (sk == skb) (sel (li == lib) (Option.bind (chk (List.all els Kerb.isCred && decide (List.length els ≤ (1000000 : Nat)) && List.all elsb Kerb.isCred && decide (List.length elsb ≤ (1000000 : Nat))) (some (AV.bool (Kerb.Cache.same (Kerb.Cache.mk (Kerb.Prin.mk o1 o2 o3) (List.map Kerb.toCred els)) (Kerb.Cache.mk (Kerb.Prin.mk o1b o2b o3b) (List.map Kerb.toCred elsb))), []))) fun (r : AV × Blocks) => onNilB (Prod.snd r) (AV.onBool (Prod.fst r) fun (b : Bool) => sel b (sel (wt == wtb) (sel (w1 == w1b && (w2 == w2b && w3 == w3b)) (sel (se == seb) (sel (tm == tmb) (sel (lf == lfb) (sel (cs == csb) (some (AV.bool (tc == tcb), [])) (some (AV.bool false, []))) (some (AV.bool false, []))) (some (AV.bool false, []))) (some (AV.bool false, []))) (some (AV.bool false, []))) (some (AV.bool false, []))) (some (AV.bool false, [])))) (some (AV.bool false, []))) (some (AV.bool false, []))) (some (AV.bool false, []))) (some (AV.bool false, [])) := by kernel_rfl

theorem p15 (m1 m2 m3 : List UInt8) (ad sk : Int) (li : Bool) (o1 o2 o3 : List UInt8) (els : List AV) (wt : Int) (w1 w2 w3 : List UInt8) (se tm lf cs tc : Int) (m1b m2b m3b : List UInt8) (adb skb : Int) (lib : Bool) (o1b o2b o3b : List UInt8) (elsb : List AV) (wtb : Int) (w1b w2b w3b : List UInt8) (seb tmb lfb csb tcb : Int) (hpre : (els.all Kerb.isCred && decide (els.length ≤ 1000000) && elsb.all Kerb.isCred && decide (elsb.length ≤ 1000000)) = true) : runFn (G.env 15 3) G.rts (G.own 15) Tryz.f15 [.agg [.str m1, .str m2, .str m3, .int .i64 ad, .int .i64 sk, .bool li, .str o1, .str o2, .str o3, .sl 8 els, .int .i64 wt, .str w1, .str w2, .str w3, .int .u64 se, .int .i64 tm, .int .i64 lf, .int .i64 cs, .int .i64 tc], .agg [.str m1b, .str m2b, .str m3b, .int .i64 adb, .int .i64 skb, .bool lib, .str o1b, .str o2b, .str o3b, .sl 8 elsb, .int .i64 wtb, .str w1b, .str w2b, .str w3b, .int .u64 seb, .int .i64 tmb, .int .i64 lfb, .int .i64 csb, .int .i64 tcb]] [] = some (.bool (Kerb.Client.same (Kerb.Client.mk ⟨m1, m2, m3⟩ ad sk li ⟨⟨o1, o2, o3⟩, els.map Kerb.toCred⟩ wt ⟨w1, w2, w3⟩ se tm lf cs tc) (Kerb.Client.mk ⟨m1b, m2b, m3b⟩ adb skb lib ⟨⟨o1b, o2b, o3b⟩, elsb.map Kerb.toCred⟩ wtb ⟨w1b, w2b, w3b⟩ seb tmb lfb csb tcb)), []) := by
  rw [r15]
  unfold Kerb.Client.same Kerb.Prin.eqb
  simp only [onInt_int, onU8_u8, onBool_bool, onStr_str, onBs_bs, onSl_sl, onAgg_agg, onTup_tup, onOwnB_ownB, onOwnL_ownL, onCons_cons, onNil_nil, onNilB_nil, onConsB_cons, chk_true, chk_bind, sel_bind, some_bind, exK_ret, exK_exit, sel_true, sel_false, hpre]
  cases m1 == m1b && (m2 == m2b && m3 == m3b)
  · rfl
  cases ad == adb
  · rfl
  cases sk == skb
  · rfl
  cases li == lib
  · rfl
  cases Kerb.Cache.same ⟨⟨o1, o2, o3⟩, els.map Kerb.toCred⟩ ⟨⟨o1b, o2b, o3b⟩, elsb.map Kerb.toCred⟩
  · rfl
  cases wt == wtb
  · rfl
  cases w1 == w1b && (w2 == w2b && w3 == w3b)
  · rfl
  cases se == seb
  · rfl
  cases tm == tmb
  · rfl
  cases lf == lfb
  · rfl
  cases cs == csb
  · rfl
  rfl

theorem w15 : Walked Tryz.prog G 15 3 sp15 := by
  refine ⟨Tryz.f15, Tryz.func15, by decide +kernel, rfl, fun xs bl r h => ?_⟩
  unfold sp15 at h
  split at h
  · obtain ⟨h1, h2⟩ := chk_inv h; cases h2; exact p15 _ _ _ _ _ _ _ _ _ _ _ _ _ _ _ _ _ _ _ _ _ _ _ _ _ _ _ _ _ _ _ _ _ _ _ _ _ _ h1
  · cases h

/- kerbsuite/kerbsuitedata.User -/
theorem r37 (n : Int) : runFn (G.env 37 3) G.rts (G.own 37) Tryz.f37 [.int .i64 n] [] = chk (decide ((0 : Int) ≤ Int.tmod n (3 : Int)) && decide (Int.tmod n (3 : Int) < (↑(List.length [AV.str [(97 : UInt8), (110 : UInt8), (110 : UInt8)], AV.str [(98 : UInt8), (111 : UInt8), (98 : UInt8)], AV.str [(99 : UInt8), (97 : UInt8), (116 : UInt8)]]) : Int)) && true) (AV.onStr (List.getD [AV.str [(97 : UInt8), (110 : UInt8), (110 : UInt8)], AV.str [(98 : UInt8), (111 : UInt8), (98 : UInt8)], AV.str [(99 : UInt8), (97 : UInt8), (116 : UInt8)]] (Int.toNat (Int.tmod n (3 : Int))) AV.undef) fun (b : List UInt8) => Option.bind (chk (decide ((0 : Int) ≤ IntKind.wrap IntKind.i64 (Int.tdiv n (3 : Int)))) (some (AV.str (Kerb.realm (IntKind.wrap IntKind.i64 (Int.tdiv n (3 : Int)))), []))) fun (r : AV × Blocks) => onNilB (Prod.snd r) (AV.onStr (Prod.fst r) fun (b_1 : List UInt8) => some (AV.agg [AV.str b, AV.str [], AV.str b_1], []))) := by kernel_rfl

theorem p37 (n : Int) (hpre : (decide (0 ≤ n) && decide (n ≤ 4611686018427387904)) = true) : runFn (G.env 37 3) G.rts (G.own 37) Tryz.f37 [.int .i64 n] [] = some (.agg [.str (Kerb.user n).name, .str (Kerb.user n).inst, .str (Kerb.user n).realm], []) := by
  rw [r37]
  have hn : 0 ≤ n := by first | exact of_decide_eq_true hpre | (simp only [Bool.and_eq_true, decide_eq_true_eq] at hpre; exact hpre.1)
  have ht : Int.tmod n 3 = n % 3 := Int.tmod_eq_emod_of_nonneg hn
  have hcase : n % 3 = 0 ∨ n % 3 = 1 ∨ n % 3 = 2 := by omega
  
  simp only [Bool.and_eq_true, decide_eq_true_eq] at hpre
  have hd : Int.tdiv n 3 = n / 3 := Int.tdiv_eq_ediv_of_nonneg hn
  rw [hd, wrap_i64 (by omega) (by omega)]
  have hq : decide ((0 : Int) ≤ n / 3) = true := by simp; omega
  
  rcases hcase with e | e | e <;> simp [ht, e, chk, AV.onStr, Kerb.user, hq, onNilB] <;> omega

theorem w37 : Walked Tryz.prog G 37 3 sp37 := by
  refine ⟨Tryz.f37, Tryz.func37, by decide +kernel, rfl, fun xs bl r h => ?_⟩
  unfold sp37 at h
  split at h
  · obtain ⟨h1, h2⟩ := chk_inv h; cases h2; exact p37 _ h1
  · cases h

/- kerbsuite/kerbsuiteref1.Valid -/
theorem r56 (a b c : List UInt8) : runFn (G.env 56 3) G.rts (G.own 56) Tryz.f56 [.agg [.str a, .str b, .str c]] [] = Option.bind (chk (decide (List.length a ≤ (9223372036854775807 : Nat))) (some (AV.bool (Kerb.validName a), []))) fun (r : AV × Blocks) => onNilB (Prod.snd r) (AV.onBool (Prod.fst r) fun (b_1 : Bool) => sel b_1 (Option.bind (chk (decide (List.length b ≤ (9223372036854775807 : Nat))) (some (AV.bool (Kerb.validInst b), []))) fun (r : AV × Blocks) => onNilB (Prod.snd r) (AV.onBool (Prod.fst r) fun (b : Bool) => sel b (Option.bind (chk (decide (List.length c ≤ (9223372036854775807 : Nat))) (some (AV.bool (Kerb.validRealm c), []))) fun (r : AV × Blocks) => onNilB (Prod.snd r) (AV.onBool (Prod.fst r) fun (b : Bool) => some (AV.bool b, []))) (some (AV.bool false, [])))) (some (AV.bool false, []))) := by kernel_rfl

theorem p56 (a b c : List UInt8) (hpre : (decide (a.length ≤ 9223372036854775807) && decide (b.length ≤ 9223372036854775807) && decide (c.length ≤ 9223372036854775807)) = true) : runFn (G.env 56 3) G.rts (G.own 56) Tryz.f56 [.agg [.str a, .str b, .str c]] [] = some (.bool (Kerb.Prin.valid ⟨a, b, c⟩), []) := by
  rw [r56]
  simp only [Bool.and_eq_true, decide_eq_true_eq] at hpre
  simp only [onInt_int, onU8_u8, onBool_bool, onStr_str, onBs_bs, onSl_sl, onAgg_agg, onTup_tup, onOwnB_ownB, onOwnL_ownL, onCons_cons, onNil_nil, onNilB_nil, onConsB_cons, chk_true, chk_bind, sel_bind, some_bind, exK_ret, exK_exit, sel_true, sel_false]
  rw [chk_of (by simp; omega), chk_of (by simp; omega), chk_of (by simp; omega)]
  simp only [Kerb.Prin.valid]
  cases Kerb.validName a <;> cases Kerb.validInst b <;> rfl

theorem w56 : Walked Tryz.prog G 56 3 sp56 := by
  refine ⟨Tryz.f56, Tryz.func56, by decide +kernel, rfl, fun xs bl r h => ?_⟩
  unfold sp56 at h
  split at h
  · obtain ⟨h1, h2⟩ := chk_inv h; cases h2; exact p56 _ _ _ h1
  · cases h

/- kerbsuite/kerbsuiteref10.EncodeAp -/
theorem r62 (li mu : Bool) (kv : Int) (rl tk au : List UInt8) : runFn (G.env 62 3) G.rts (G.own 62) Tryz.f62 [.agg [.bool li, .bool mu, .int .i64 kv, .str rl, .bs tk, .bs au]] [] = Option.bind (chk (decide (List.length rl ≤ (9223372036854775807 : Nat))) (some (AV.bool (Kerb.validRealm rl), []))) fun (r : AV × Blocks) => onNilB (Prod.snd r) (AV.onBool (Prod.fst r) fun (b : Bool) => sel (!b) (some (AV.tup [AV.bs [], AV.int IntKind.i64 (103 : Int)], [])) (sel (!Kerb.within kv (255 : Int)) (some (AV.tup [AV.bs [], AV.int IntKind.i64 (104 : Int)], [])) (sel (decide ((↑(List.length tk) : Int) > (255 : Int))) (some (AV.tup [AV.bs [], AV.int IntKind.i64 (105 : Int)], [])) (sel (decide ((↑(List.length au) : Int) > (255 : Int))) (some (AV.tup [AV.bs [], AV.int IntKind.i64 (105 : Int)], [])) (sel mu (Option.bind (chk (decide (List.length (Kerb.header (4 : Int) li) ≤ (70368744177664 : Nat))) (some (AV.ownB (Kerb.header (4 : Int) li ++ Kerb.putN kv (1 : Nat) false), []))) fun (r : AV × Blocks) => onNilB (Prod.snd r) (AV.onOwnB (Prod.fst r) fun (l : List UInt8) => Option.bind (chk (decide (List.length l + List.length rl ≤ (70368744177664 : Nat))) (some (AV.bs (Kerb.putText l rl), []))) fun (r : AV × Blocks) => onNilB (Prod.snd r) (AV.onBs (Prod.fst r) fun (b : List UInt8) => Option.bind (chk (decide (List.length b ≤ (70368744177664 : Nat))) (some (AV.ownB (b ++ Kerb.putN (↑(List.length tk) : Int) (1 : Nat) false), []))) fun (r : AV × Blocks) => onNilB (Prod.snd r) (AV.onOwnB (Prod.fst r) fun (l : List UInt8) => Option.bind (chk (decide (List.length l ≤ (70368744177664 : Nat))) (some (AV.ownB (l ++ Kerb.putN (↑(List.length au) : Int) (1 : Nat) false), []))) fun (r : AV × Blocks) => onNilB (Prod.snd r) (AV.onOwnB (Prod.fst r) fun (l : List UInt8) => chk (room (List.length l + List.length tk) (1 : Nat)) (chk (room (List.length (l ++ tk) + List.length au) (1 : Nat)) (some (AV.tup [AV.bs (l ++ tk ++ au), AV.int IntKind.i64 (0 : Int)], [])))))))) (Option.bind (chk (decide (List.length (Kerb.header (3 : Int) li) ≤ (70368744177664 : Nat))) (some (AV.ownB (Kerb.header (3 : Int) li ++ Kerb.putN kv (1 : Nat) false), []))) fun (r : AV × Blocks) => onNilB (Prod.snd r) (AV.onOwnB (Prod.fst r) fun (l : List UInt8) => Option.bind (chk (decide (List.length l + List.length rl ≤ (70368744177664 : Nat))) (some (AV.bs (Kerb.putText l rl), []))) fun (r : AV × Blocks) => onNilB (Prod.snd r) (AV.onBs (Prod.fst r) fun (b : List UInt8) => Option.bind (chk (decide (List.length b ≤ (70368744177664 : Nat))) (some (AV.ownB (b ++ Kerb.putN (↑(List.length tk) : Int) (1 : Nat) false), []))) fun (r : AV × Blocks) => onNilB (Prod.snd r) (AV.onOwnB (Prod.fst r) fun (l : List UInt8) => Option.bind (chk (decide (List.length l ≤ (70368744177664 : Nat))) (some (AV.ownB (l ++ Kerb.putN (↑(List.length au) : Int) (1 : Nat) false), []))) fun (r : AV × Blocks) => onNilB (Prod.snd r) (AV.onOwnB (Prod.fst r) fun (l : List UInt8) => chk (room (List.length l + List.length tk) (1 : Nat)) (chk (room (List.length (l ++ tk) + List.length au) (1 : Nat)) (some (AV.tup [AV.bs (l ++ tk ++ au), AV.int IntKind.i64 (0 : Int)], []))))))))))))) := by kernel_rfl

theorem p62 (li mu : Bool) (kv : Int) (rl tk au : List UInt8) (hpre : (decide (rl.length ≤ 9223372036854775807)) = true) : runFn (G.env 62 3) G.rts (G.own 62) Tryz.f62 [.agg [.bool li, .bool mu, .int .i64 kv, .str rl, .bs tk, .bs au]] [] = some (.tup [.bs (Kerb.encodeAp (Kerb.ApRequest.mk li mu kv rl tk au)).val, .int .i64 (Kerb.encodeAp (Kerb.ApRequest.mk li mu kv rl tk au)).err], []) := by
  rw [r62]
  simp only [onInt_int, onU8_u8, onBool_bool, onStr_str, onBs_bs, onSl_sl, onAgg_agg, onTup_tup, onOwnB_ownB, onOwnL_ownL, onCons_cons, onNil_nil, onNilB_nil, onConsB_cons, chk_true, chk_bind, sel_bind, some_bind, exK_ret, exK_exit, sel_true, sel_false, hpre]
  unfold Kerb.encodeAp
  simp only
  cases h1 : Kerb.validRealm rl
  · rfl
  rw [Bool.not_true, sel_false, if_neg (by simp)]
  cases h2 : Kerb.within kv 255
  · rfl
  rw [Bool.not_true, sel_false, if_neg (by simp)]
  by_cases h3 : 255 < tk.length
  · rw [sel_pos (by simp; omega), if_pos (.inl h3)]
  rw [sel_neg (by simp; omega)]
  by_cases h4 : 255 < au.length
  · rw [sel_pos (by simp; omega), if_pos (.inr h4)]
  rw [sel_neg (by simp; omega), if_neg (by omega)]
  have l1 := Kerb.validRealm_len h1
  have g3 := Kerb.header_len 3 li
  have g4 := Kerb.header_len 4 li
  
  cases mu
  · rw [sel_false, chk_of (by simp; omega), chk_of (by simp [Kerb.putN_len]; omega), chk_of (by simp [Kerb.putN_len, Kerb.putText_len]; omega), chk_of (by simp [Kerb.putN_len, Kerb.putText_len]; omega), chk_of (Kerb.room_ok (by simp [Kerb.putN_len, Kerb.putText_len]; omega)), chk_of (Kerb.room_ok (by simp [Kerb.putN_len, Kerb.putText_len]; omega))]
    rfl
  · rw [sel_true, chk_of (by simp; omega), chk_of (by simp [Kerb.putN_len]; omega), chk_of (by simp [Kerb.putN_len, Kerb.putText_len]; omega), chk_of (by simp [Kerb.putN_len, Kerb.putText_len]; omega), chk_of (Kerb.room_ok (by simp [Kerb.putN_len, Kerb.putText_len]; omega)), chk_of (Kerb.room_ok (by simp [Kerb.putN_len, Kerb.putText_len]; omega))]
    rfl

theorem w62 : Walked Tryz.prog G 62 3 sp62 := by
  refine ⟨Tryz.f62, Tryz.func62, by decide +kernel, rfl, fun xs bl r h => ?_⟩
  unfold sp62 at h
  split at h
  · obtain ⟨h1, h2⟩ := chk_inv h; cases h2; exact p62 _ _ _ _ _ _ h1
  · cases h

/- kerbsuite/kerbsuiteref4.Make -/
theorem r70 (kd k : Int) (bd : List UInt8) : runFn (G.env 70 3) G.rts (G.own 70) Tryz.f70 [.int .i64 kd, .int .u64 k, .bs bd] [] = sel (decide (kd < (1 : Int))) (some (AV.tup [AV.bs [], AV.int IntKind.i64 (104 : Int)], [])) (sel (decide (kd > (10 : Int))) (some (AV.tup [AV.bs [], AV.int IntKind.i64 (104 : Int)], [])) (Option.bind (chk (decide ((0 : Int) ≤ k) && decide (k < (18446744073709551616 : Int))) (some (AV.bool (Kerb.keyValid k), []))) fun (r : AV × Blocks) => onNilB (Prod.snd r) (AV.onBool (Prod.fst r) fun (b : Bool) => sel (!b) (some (AV.tup [AV.bs [], AV.int IntKind.i64 (10 : Int)], [])) (sel (decide ((↑(List.length bd) : Int) > (1000 : Int))) (some (AV.tup [AV.bs [], AV.int IntKind.i64 (105 : Int)], [])) (Option.bind (chk (decide ((0 : Int) ≤ k) && decide (k < (18446744073709551616 : Int))) (some (AV.bs (Kerb.keyBytes k), []))) fun (r : AV × Blocks) => onNilB (Prod.snd r) (AV.onBs (Prod.fst r) fun (b : List UInt8) => chk (room (List.length [(66 : UInt8), UInt8.ofNat (Int.toNat (IntKind.wrap IntKind.u8 kd))] + List.length b) (1 : Nat)) (chk (room (List.length ([(66 : UInt8), UInt8.ofNat (Int.toNat (IntKind.wrap IntKind.u8 kd))] ++ b) + List.length [UInt8.ofNat (Int.toNat (IntKind.wrap IntKind.u8 (Int.fdiv (↑(List.length bd) : Int) ((2 : Int) ^ min (Int.toNat (8 : Int)) (IntKind.bits IntKind.i64))))), UInt8.ofNat (Int.toNat (IntKind.wrap IntKind.u8 (↑(List.length bd) : Int)))]) (1 : Nat)) (chk (room (List.length ([(66 : UInt8), UInt8.ofNat (Int.toNat (IntKind.wrap IntKind.u8 kd))] ++ b ++ [UInt8.ofNat (Int.toNat (IntKind.wrap IntKind.u8 (Int.fdiv (↑(List.length bd) : Int) ((2 : Int) ^ min (Int.toNat (8 : Int)) (IntKind.bits IntKind.i64))))), UInt8.ofNat (Int.toNat (IntKind.wrap IntKind.u8 (↑(List.length bd) : Int)))]) + List.length bd) (1 : Nat)) (some (AV.tup [AV.bs ([(66 : UInt8), UInt8.ofNat (Int.toNat (IntKind.wrap IntKind.u8 kd))] ++ b ++ [UInt8.ofNat (Int.toNat (IntKind.wrap IntKind.u8 (Int.fdiv (↑(List.length bd) : Int) ((2 : Int) ^ min (Int.toNat (8 : Int)) (IntKind.bits IntKind.i64))))), UInt8.ofNat (Int.toNat (IntKind.wrap IntKind.u8 (↑(List.length bd) : Int)))] ++ bd), AV.int IntKind.i64 (0 : Int)], [])))))))))) := by kernel_rfl

theorem p70 (kd k : Int) (bd : List UInt8) (hpre : (decide (0 ≤ k) && decide (k < 18446744073709551616)) = true) : runFn (G.env 70 3) G.rts (G.own 70) Tryz.f70 [.int .i64 kd, .int .u64 k, .bs bd] [] = some (.tup [.bs (Kerb.makeBox kd k bd).val, .int .i64 (Kerb.makeBox kd k bd).err], []) := by
  rw [r70]
  simp only [onInt_int, onU8_u8, onBool_bool, onStr_str, onBs_bs, onSl_sl, onAgg_agg, onTup_tup, onOwnB_ownB, onOwnL_ownL, onCons_cons, onNil_nil, onNilB_nil, onConsB_cons, chk_true, chk_bind, sel_bind, some_bind, exK_ret, exK_exit, sel_true, sel_false, hpre]
  unfold Kerb.makeBox
  by_cases k1 : 1 ≤ kd
  case neg =>
    rw [sel_pos (by simp; omega), if_pos (by simp [Kerb.isKind]; omega)]
  by_cases k2 : kd ≤ 10
  case neg =>
    rw [sel_neg (by simp; omega), sel_pos (by simp; omega), if_pos (by simp [Kerb.isKind]; omega)]
  rw [sel_neg (by simp; omega), sel_neg (by simp; omega), if_neg (by simp [Kerb.isKind]; omega)]
  cases h2 : Kerb.keyValid k
  · rfl
  rw [Bool.not_true, sel_false, if_neg (by simp)]
  by_cases h3 : 1000 < bd.length
  · rw [sel_pos (by simp; omega), if_pos h3]
  have lk := Kerb.keyBytes_len k
  rw [sel_neg (by simp; omega), if_neg h3, chk_of (Kerb.room_ok (by simp; omega)), chk_of (Kerb.room_ok (by simp; omega)), chk_of (Kerb.room_ok (by simp; omega)), Kerb.two_bytes, Kerb.wrap_u8, Int.emod_eq_of_lt (by omega) (by omega)]

theorem w70 : Walked Tryz.prog G 70 3 sp70 := by
  refine ⟨Tryz.f70, Tryz.func70, by decide +kernel, rfl, fun xs bl r h => ?_⟩
  unfold sp70 at h
  split at h
  · obtain ⟨h1, h2⟩ := chk_inv h; cases h2; exact p70 _ _ _ h1
  · cases h

/- kerbsuite/field.PutText -/
theorem r101 (b s : List UInt8) : runFn (G.env 101 3) G.rts (G.own 101) Tryz.f101 [.bs b, .str s] [] = Option.bind (chk (decide (List.length (List.append b (List.append s ((0 : UInt8) :: List.append [] []))) ≤ (140737488355328 : Nat)) && decide (List.length [AV.bs b, AV.bs s, AV.bs [(0 : UInt8)]] ≤ (1000 : Nat))) (some (AV.ownB (List.append b (List.append s ((0 : UInt8) :: List.append [] []))), []))) fun (r : AV × Blocks) => onNilB (Prod.snd r) (AV.onOwnB (Prod.fst r) fun (l : List UInt8) => some (AV.bs l, [])) := by kernel_rfl

theorem p101 (b s : List UInt8) (hpre : (decide (b.length + s.length ≤ 70368744177664)) = true) : runFn (G.env 101 3) G.rts (G.own 101) Tryz.f101 [.bs b, .str s] [] = some (.bs (Kerb.putText b s), []) := by
  rw [r101]
  simp only [decide_eq_true_eq] at hpre
  simp only [onInt_int, onU8_u8, onBool_bool, onStr_str, onBs_bs, onSl_sl, onAgg_agg, onTup_tup, onOwnB_ownB, onOwnL_ownL, onCons_cons, onNil_nil, onNilB_nil, onConsB_cons, chk_true, chk_bind, sel_bind, some_bind, exK_ret, exK_exit, sel_true, sel_false]
  rw [chk_of (by simp; omega)]
  simp [Kerb.putText]

theorem w101 : Walked Tryz.prog G 101 3 sp101 := by
  refine ⟨Tryz.f101, Tryz.func101, by decide +kernel, rfl, fun xs bl r h => ?_⟩
  unfold sp101 at h
  split at h
  · obtain ⟨h1, h2⟩ := chk_inv h; cases h2; exact p101 _ _ h1
  · cases h

/- kerbsuite/ccache.Get -/
theorem r111 (o1 o2 o3 : List UInt8) (els : List AV) (x y z : List UInt8) : runFn (G.env 111 3) G.rts (G.own 111) Tryz.f111 [.agg [.str o1, .str o2, .str o3, .sl 8 els], .agg [.str x, .str y, .str z]] [] = Option.bind (chk (List.all els Kerb.isCred && decide (List.length els ≤ (1000000 : Nat))) (some (AV.int IntKind.i64 (↑(Kerb.credAt (List.map Kerb.toCred els) (Kerb.Prin.mk x y z)) : Int), []))) fun (r : AV × Blocks) => onNilB (Prod.snd r) (AV.onInt IntKind.i64 (Prod.fst r) fun (n : Int) => sel (n == (↑(List.length els) : Int)) (some (AV.tup [AV.agg [AV.str [], AV.str [], AV.str [], AV.int IntKind.u64 (0 : Int), AV.int IntKind.i64 (0 : Int), AV.int IntKind.i64 (0 : Int), AV.int IntKind.i64 (0 : Int), AV.bs []], AV.bool false], [])) (chk (decide ((0 : Int) ≤ n) && decide (n < (↑(List.length els) : Int)) && true) (AV.onAgg (List.getD els (Int.toNat n) AV.undef) fun (cs : List AV) => onCons cs fun (x : AV) (r : List AV) => AV.onStr x fun (b : List UInt8) => onCons r fun (x : AV) (r : List AV) => AV.onStr x fun (b_1 : List UInt8) => onCons r fun (x : AV) (r : List AV) => AV.onStr x fun (b_2 : List UInt8) => onCons r fun (x : AV) (r : List AV) => AV.onInt IntKind.u64 x fun (n : Int) => onCons r fun (x : AV) (r : List AV) => AV.onInt IntKind.i64 x fun (n_1 : Int) => onCons r fun (x : AV) (r : List AV) => AV.onInt IntKind.i64 x fun (n_2 : Int) => onCons r fun (x : AV) (r : List AV) => AV.onInt IntKind.i64 x fun (n_3 : Int) => onCons r fun (x : AV) (r : List AV) => AV.onBs x fun (b_3 : List UInt8) => onNil r (Option.bind (chk (decide (List.length b_3 ≤ (140737488355328 : Nat))) (some (AV.agg [AV.str b, AV.str b_1, AV.str b_2, AV.int IntKind.u64 n, AV.int IntKind.i64 n_1, AV.int IntKind.i64 n_2, AV.int IntKind.i64 n_3, AV.bs b_3], []))) fun (r : AV × Blocks) => onNilB (Prod.snd r) (AV.onAgg (Prod.fst r) fun (cs : List AV) => onCons cs fun (x : AV) (r : List AV) => AV.onStr x fun (b : List UInt8) => onCons r fun (x : AV) (r : List AV) => AV.onStr x fun (b_4 : List UInt8) => onCons r fun (x : AV) (r : List AV) => AV.onStr x fun (b_5 : List UInt8) => onCons r fun (x : AV) (r : List AV) => AV.onInt IntKind.u64 x fun (n : Int) => onCons r fun (x : AV) (r : List AV) => AV.onInt IntKind.i64 x fun (n_4 : Int) => onCons r fun (x : AV) (r : List AV) => AV.onInt IntKind.i64 x fun (n_5 : Int) => onCons r fun (x : AV) (r : List AV) => AV.onInt IntKind.i64 x fun (n_6 : Int) => onCons r fun (x : AV) (r : List AV) => AV.onBs x fun (b_6 : List UInt8) => onNil r (some (AV.tup [AV.agg [AV.str b, AV.str b_4, AV.str b_5, AV.int IntKind.u64 n, AV.int IntKind.i64 n_4, AV.int IntKind.i64 n_5, AV.int IntKind.i64 n_6, AV.bs b_6], AV.bool true], []))))))) := by kernel_rfl

theorem p111 (o1 o2 o3 : List UInt8) (els : List AV) (x y z : List UInt8) (hpre : (els.all Kerb.isCred && decide (els.length ≤ 1000000) && els.all Kerb.fitCred) = true) : runFn (G.env 111 3) G.rts (G.own 111) Tryz.f111 [.agg [.str o1, .str o2, .str o3, .sl 8 els], .agg [.str x, .str y, .str z]] [] = some (.tup [.agg [.str ((Kerb.getCred (els.map Kerb.toCred) ⟨x, y, z⟩).1).service.name, .str ((Kerb.getCred (els.map Kerb.toCred) ⟨x, y, z⟩).1).service.inst, .str ((Kerb.getCred (els.map Kerb.toCred) ⟨x, y, z⟩).1).service.realm, .int .u64 ((Kerb.getCred (els.map Kerb.toCred) ⟨x, y, z⟩).1).session, .int .i64 ((Kerb.getCred (els.map Kerb.toCred) ⟨x, y, z⟩).1).life, .int .i64 ((Kerb.getCred (els.map Kerb.toCred) ⟨x, y, z⟩).1).kvno, .int .i64 ((Kerb.getCred (els.map Kerb.toCred) ⟨x, y, z⟩).1).issued, .bs ((Kerb.getCred (els.map Kerb.toCred) ⟨x, y, z⟩).1).ticket], .bool (Kerb.getCred (els.map Kerb.toCred) ⟨x, y, z⟩).2], []) := by
  rw [r111]
  simp only [Bool.and_eq_true, decide_eq_true_eq] at hpre
  obtain ⟨⟨hall, hlen⟩, hfit⟩ := hpre
  obtain ⟨cs, rfl, hok⟩ := Kerb.creds_of hall
  have hf := Kerb.fit_of hfit
  simp only [onInt_int, onU8_u8, onBool_bool, onStr_str, onBs_bs, onSl_sl, onAgg_agg, onTup_tup, onOwnB_ownB, onOwnL_ownL, onCons_cons, onNil_nil, onNilB_nil, onConsB_cons, chk_true, chk_bind, sel_bind, some_bind, exK_ret, exK_exit, sel_true, sel_false, Kerb.map_toCred, List.length_map] at hlen ⊢
  rw [chk_of (by rw [hall]; simp; omega)]
  have hle := Kerb.credAt_le cs ⟨x, y, z⟩
  unfold Kerb.getCred
  by_cases h : Kerb.credAt cs ⟨x, y, z⟩ < cs.length
  · rw [sel_neg (by simp; omega), chk_of (by simp; omega), Int.toNat_natCast, Kerb.getD_av h, if_pos h]
    obtain ⟨c, hcc⟩ : ∃ c, cs.getD (Kerb.credAt cs ⟨x, y, z⟩) Kerb.noCred = c := ⟨_, rfl⟩
    have hm : c ∈ cs := by rw [← hcc]; simp [List.getD_eq_getElem?_getD, h]
    have ht := hf c hm
    rw [hcc]
    simp only [Kerb.Cred.av, onInt_int, onU8_u8, onBool_bool, onStr_str, onBs_bs, onSl_sl, onAgg_agg, onTup_tup, onOwnB_ownB, onOwnL_ownL, onCons_cons, onNil_nil, onNilB_nil, onConsB_cons, chk_true, chk_bind, sel_bind, some_bind, exK_ret, exK_exit, sel_true, sel_false]
    rw [chk_of (by simpa using ht)]
  · rw [sel_pos (by simp; omega), if_neg h]
    rfl

theorem w111 : Walked Tryz.prog G 111 3 sp111 := by
  refine ⟨Tryz.f111, Tryz.func111, by decide +kernel, rfl, fun xs bl r h => ?_⟩
  unfold sp111 at h
  split at h
  · obtain ⟨h1, h2⟩ := chk_inv h; cases h2; exact p111 _ _ _ _ _ _ _ h1
  · cases h

/- kerbsuite/ccache.expired -/
theorem r112 (x y z : List UInt8) (k lf kv iss : Int) (tk : List UInt8) (now : Int) : runFn (G.env 112 3) G.rts (G.own 112) Tryz.f112 [.agg [.str x, .str y, .str z, .int .u64 k, .int .i64 lf, .int .i64 kv, .int .i64 iss, .bs tk], .int .i64 now] [] = some (AV.bool (decide (now > Kerb.tEnd iss lf)), []) := by kernel_rfl

theorem p112 (x y z : List UInt8) (k lf kv iss : Int) (tk : List UInt8) (now : Int) : runFn (G.env 112 3) G.rts (G.own 112) Tryz.f112 [.agg [.str x, .str y, .str z, .int .u64 k, .int .i64 lf, .int .i64 kv, .int .i64 iss, .bs tk], .int .i64 now] [] = some (.bool ((Kerb.Cred.mk ⟨x, y, z⟩ k lf kv iss tk).expired now), []) := by
  rw [r112]
  rfl

theorem w112 : Walked Tryz.prog G 112 3 sp112 := by
  refine ⟨Tryz.f112, Tryz.func112, by decide +kernel, rfl, fun xs bl r h => ?_⟩
  unfold sp112 at h
  split at h
  · cases h; exact p112 _ _ _ _ _ _ _ _ _
  · cases h

/- kerbsuite/kerbsuiteref15.expired -/
theorem r116 (x y z : List UInt8) (k lf kv iss : Int) (tk : List UInt8) (now : Int) : runFn (G.env 116 3) G.rts (G.own 116) Tryz.f116 [.agg [.str x, .str y, .str z, .int .u64 k, .int .i64 lf, .int .i64 kv, .int .i64 iss, .bs tk], .int .i64 now] [] = some (AV.bool (decide (now > Kerb.tEnd iss lf)), []) := by kernel_rfl

theorem p116 (x y z : List UInt8) (k lf kv iss : Int) (tk : List UInt8) (now : Int) : runFn (G.env 116 3) G.rts (G.own 116) Tryz.f116 [.agg [.str x, .str y, .str z, .int .u64 k, .int .i64 lf, .int .i64 kv, .int .i64 iss, .bs tk], .int .i64 now] [] = some (.bool ((Kerb.Cred.mk ⟨x, y, z⟩ k lf kv iss tk).expired now), []) := by
  rw [r116]
  rfl

theorem w116 : Walked Tryz.prog G 116 3 sp116 := by
  refine ⟨Tryz.f116, Tryz.func116, by decide +kernel, rfl, fun xs bl r h => ?_⟩
  unfold sp116 at h
  split at h
  · cases h; exact p116 _ _ _ _ _ _ _ _ _
  · cases h

/- kerbsuite/kerbsuiteref5.PutOrder -/
theorem r129 (b : List UInt8) (little : Bool) : runFn (G.env 129 3) G.rts (G.own 129) Tryz.f129 [.bs b, .bool little] [] = sel little (Option.bind (chk (decide (List.length b ≤ (70368744177664 : Nat))) (some (AV.ownB (b ++ Kerb.putN (1 : Int) (1 : Nat) false), []))) fun (r : AV × Blocks) => onNilB (Prod.snd r) (AV.onOwnB (Prod.fst r) fun (l : List UInt8) => some (AV.ownB l, []))) (Option.bind (chk (decide (List.length b ≤ (70368744177664 : Nat))) (some (AV.ownB (b ++ Kerb.putN (0 : Int) (1 : Nat) false), []))) fun (r : AV × Blocks) => onNilB (Prod.snd r) (AV.onOwnB (Prod.fst r) fun (l : List UInt8) => some (AV.ownB l, []))) := by kernel_rfl

theorem p129 (b : List UInt8) (little : Bool) (hpre : (decide (b.length ≤ 70368744177664)) = true) : runFn (G.env 129 3) G.rts (G.own 129) Tryz.f129 [.bs b, .bool little] [] = some (.ownB (b ++ Kerb.putN (cond little 1 0) 1 false), []) := by
  rw [r129]
  simp only [onInt_int, onU8_u8, onBool_bool, onStr_str, onBs_bs, onSl_sl, onAgg_agg, onTup_tup, onOwnB_ownB, onOwnL_ownL, onCons_cons, onNil_nil, onNilB_nil, onConsB_cons, chk_true, chk_bind, sel_bind, some_bind, exK_ret, exK_exit, sel_true, sel_false]
  rw [chk_of hpre, chk_of hpre]
  cases little <;> rfl

theorem w129 : Walked Tryz.prog G 129 3 sp129 := by
  refine ⟨Tryz.f129, Tryz.func129, by decide +kernel, rfl, fun xs bl r h => ?_⟩
  unfold sp129 at h
  split at h
  · obtain ⟨h1, h2⟩ := chk_inv h; cases h2; exact p129 _ _ h1
  · cases h

/- kerbsuite/key.Valid -/
theorem r154 (k : Int) : runFn (G.env 154 3) G.rts (G.own 154) Tryz.f154 [.int .u64 k] [] = Option.bind (chk (decide ((0 : Int) ≤ k) && decide (k < (18446744073709551616 : Int))) (some (AV.tup [AV.int IntKind.i64 (bif Kerb.keyValid k then Kerb.keyClass k else (0 : Int)), AV.int IntKind.i64 (bif Kerb.keyValid k then Kerb.keySerial k else (0 : Int)), AV.bool (Kerb.keyValid k)], []))) fun (r : AV × Blocks) => onNilB (Prod.snd r) (AV.onTup (Prod.fst r) fun (vs : List AV) => onCons vs fun (x : AV) (r : List AV) => AV.onInt IntKind.i64 x fun (n : Int) => onCons r fun (x : AV) (r : List AV) => AV.onInt IntKind.i64 x fun (n : Int) => onCons r fun (x : AV) (r : List AV) => AV.onBool x fun (b : Bool) => onNil r (some (AV.bool b, []))) := by kernel_rfl

theorem p154 (k : Int) (hpre : (decide (0 ≤ k) && decide (k < 18446744073709551616)) = true) : runFn (G.env 154 3) G.rts (G.own 154) Tryz.f154 [.int .u64 k] [] = some (.bool (Kerb.keyValid k), []) := by
  rw [r154]
  simp only [onInt_int, onU8_u8, onBool_bool, onStr_str, onBs_bs, onSl_sl, onAgg_agg, onTup_tup, onOwnB_ownB, onOwnL_ownL, onCons_cons, onNil_nil, onNilB_nil, onConsB_cons, chk_true, chk_bind, sel_bind, some_bind, exK_ret, exK_exit, sel_true, sel_false]
  rw [chk_of hpre]

theorem w154 : Walked Tryz.prog G 154 3 sp154 := by
  refine ⟨Tryz.f154, Tryz.func154, by decide +kernel, rfl, fun xs bl r h => ?_⟩
  unfold sp154 at h
  split at h
  · obtain ⟨h1, h2⟩ := chk_inv h; cases h2; exact p154 _ h1
  · cases h

end Go.Proofs.YtojielacjhifeaaGreat