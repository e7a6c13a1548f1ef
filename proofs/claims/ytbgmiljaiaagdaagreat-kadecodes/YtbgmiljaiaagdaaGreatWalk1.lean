/- What the functions of this seat compute. -/
import Derived.Test.YtbgmiljaiaagdaaGreatTab
import Derived.Test.YtbgmiljaiaagdaaGreatKerbPlain
import Derived.Test.YtbgmiljaiaagdaaGreatKerbKaPlain
import Derived.Test.YtbgmiljaiaagdaaGreatKerbKaRef
namespace Go.Proofs.YtbgmiljaiaagdaaGreat
open Go Go.Abs Go.Proofs
set_option linter.unusedVariables false
set_option linter.unusedSimpArgs false
set_option maxRecDepth 100000

/- kerbsuite/kerbsuitedata.Spoil -/
theorem r12 (b : List UInt8) (how : Int) : runFn (G.env 12 1) G.rts (G.own 12) Tryz.f12 [.bs b, .int .u16 how] [] = chk (room (List.length b) (1 : Nat)) (sel ((↑(List.length b) : Int) == (0 : Int)) (some (AV.bs b, [])) (chk (!(↑(List.length b) : Int) == (0 : Int)) (sel (Int.tmod how (4 : Int) == (0 : Int)) (chk (decide ((0 : Int) ≤ Int.tmod (IntKind.wrap IntKind.i64 (IntKind.wrap IntKind.u16 (Int.tdiv how (8 : Int)))) (↑(List.length b) : Int)) && decide (Int.tmod (IntKind.wrap IntKind.i64 (IntKind.wrap IntKind.u16 (Int.tdiv how (8 : Int)))) (↑(List.length b) : Int) < (↑(List.length b) : Int))) (chk (Nat.blt (Int.toNat (Int.tmod (IntKind.wrap IntKind.i64 (IntKind.wrap IntKind.u16 (Int.tdiv how (8 : Int)))) (↑(List.length b) : Int))) (List.length b) && true && true && true) (chk (decide ((0 : Int) ≤ IntKind.wrap IntKind.u64 (Int.tmod how (7 : Int)))) (chk (decide ((0 : Int) ≤ Int.tmod (IntKind.wrap IntKind.i64 (IntKind.wrap IntKind.u16 (Int.tdiv how (8 : Int)))) (↑(List.length b) : Int)) && decide (Int.tmod (IntKind.wrap IntKind.i64 (IntKind.wrap IntKind.u16 (Int.tdiv how (8 : Int)))) (↑(List.length b) : Int) < (↑(List.length b) : Int))) (chk (Nat.blt (Int.toNat (Int.tmod (IntKind.wrap IntKind.i64 (IntKind.wrap IntKind.u16 (Int.tdiv how (8 : Int)))) (↑(List.length b) : Int))) (List.length b) && true && true && true && true) (some (AV.bs (List.set b (Int.toNat (Int.tmod (IntKind.wrap IntKind.i64 (IntKind.wrap IntKind.u16 (Int.tdiv how (8 : Int)))) (↑(List.length b) : Int))) (UInt8.ofNat (Int.toNat (IntKind.wrap IntKind.u8 (↑(BitVec.toNat (BitVec.ofInt (IntKind.bits IntKind.u8) (↑(UInt8.toNat (List.getD b (Int.toNat (Int.tmod (IntKind.wrap IntKind.i64 (IntKind.wrap IntKind.u16 (Int.tdiv how (8 : Int)))) (↑(List.length b) : Int))) (0 : UInt8))) : Int) ^^^ BitVec.ofInt (IntKind.bits IntKind.u8) (↑(UInt8.toNat (UInt8.ofNat (Int.toNat (IntKind.wrap IntKind.u8 ((↑(UInt8.toNat (1 : UInt8)) : Int) * (2 : Int) ^ min (Int.toNat (IntKind.wrap IntKind.u64 (Int.tmod how (7 : Int)))) (8 : Nat)))))) : Int))) : Int))))), []))))))) (sel (Int.tmod how (4 : Int) == (1 : Int)) (chk (decide ((0 : Int) ≤ Int.tmod (IntKind.wrap IntKind.i64 (IntKind.wrap IntKind.u16 (Int.tdiv how (8 : Int)))) (↑(List.length b) : Int)) && decide (Int.tmod (IntKind.wrap IntKind.i64 (IntKind.wrap IntKind.u16 (Int.tdiv how (8 : Int)))) (↑(List.length b) : Int) ≤ (↑(List.length b) : Int)) && Nat.blt (0 : Nat) (List.length b) && true) (chk (decide ((0 : Int) ≤ IntKind.wrap IntKind.i64 (Int.tmod (IntKind.wrap IntKind.i64 (IntKind.wrap IntKind.u16 (Int.tdiv how (8 : Int)))) (↑(List.length b) : Int) + (1 : Int))) && decide (IntKind.wrap IntKind.i64 (Int.tmod (IntKind.wrap IntKind.i64 (IntKind.wrap IntKind.u16 (Int.tdiv how (8 : Int)))) (↑(List.length b) : Int) + (1 : Int)) ≤ (↑(List.length b) : Int)) && Nat.blt (0 : Nat) (List.length b) && true) (chk (Nat.blt (0 : Nat) (List.length b) && true && true && true && room (Int.toNat (Int.tmod (IntKind.wrap IntKind.i64 (IntKind.wrap IntKind.u16 (Int.tdiv how (8 : Int)))) (↑(List.length b) : Int)) + (List.length b - Int.toNat (IntKind.wrap IntKind.i64 (Int.tmod (IntKind.wrap IntKind.i64 (IntKind.wrap IntKind.u16 (Int.tdiv how (8 : Int)))) (↑(List.length b) : Int) + (1 : Int))))) (1 : Nat)) (some (AV.bs (List.take (Int.toNat (Int.tmod (IntKind.wrap IntKind.i64 (IntKind.wrap IntKind.u16 (Int.tdiv how (8 : Int)))) (↑(List.length b) : Int))) b ++ List.drop (Int.toNat (IntKind.wrap IntKind.i64 (Int.tmod (IntKind.wrap IntKind.i64 (IntKind.wrap IntKind.u16 (Int.tdiv how (8 : Int)))) (↑(List.length b) : Int) + (1 : Int)))) b), []))))) (sel (Int.tmod how (4 : Int) == (2 : Int)) (chk (room (List.length b + List.length [UInt8.ofNat (Int.toNat (IntKind.wrap IntKind.u8 how))]) (1 : Nat)) (some (AV.bs (b ++ [UInt8.ofNat (Int.toNat (IntKind.wrap IntKind.u8 how))]), []))) (some (AV.bs b, []))))))) := by kernel_rfl

theorem p12 (b : List UInt8) (how : Int) (hpre : (decide (b.length ≤ 1000000) && decide (0 ≤ how) && decide (how ≤ 65535)) = true) : runFn (G.env 12 1) G.rts (G.own 12) Tryz.f12 [.bs b, .int .u16 how] [] = some (.bs (Kerb.spoil b how), []) := by
  rw [r12]
  simp only [Bool.and_eq_true, decide_eq_true_eq] at hpre
  obtain ⟨⟨hb, h0⟩, h1⟩ := hpre
  rw [chk_of (Kerb.room_ok (by omega))]
  unfold Kerb.spoil
  by_cases hn : b = []
  · subst hn; rfl
  have hpos : 0 < b.length := List.length_pos_iff.2 hn
  rw [if_neg hn, sel_neg (by simp; omega), chk_of (by simp; omega)]
  have e : Int.tmod (IntKind.wrap IntKind.i64 (IntKind.wrap IntKind.u16 (Int.tdiv how (8 : Int)))) (b.length : Int) = Kerb.spoilAt b how := rfl
  rw [e]
  obtain ⟨ha, hc⟩ := Kerb.spoilAt_bd h0 h1 hpos
  generalize Kerb.spoilAt b how = a at ha hc ⊢
  have hd : (decide ((0 : Int) ≤ a) && decide (a < (b.length : Int))) = true := by simp; omega
  have hbl : Nat.blt a.toNat b.length = true := Nat.ble_eq_true_of_le (by omega)
  have hbl0 : Nat.blt 0 b.length = true := Nat.ble_eq_true_of_le (by omega)
  have h7 : decide ((0 : Int) ≤ IntKind.wrap IntKind.u64 (Int.tmod how (7 : Int))) = true := by rw [Kerb.wrap_u64]; simp; omega
  by_cases c0 : Int.tmod how 4 = 0
  · rw [if_pos c0, sel_pos (by simpa using c0), chk_of hd, chk_of (by rw [hbl]; rfl), chk_of h7, chk_of hd, chk_of (by rw [hbl]; rfl)]
  rw [if_neg c0, sel_neg (by simpa using c0)]
  by_cases c1 : Int.tmod how 4 = 1
  · rw [if_pos c1, sel_pos (by simpa using c1), wrap_i64 (n := a + 1) (by omega) (by omega), chk_of (by rw [hbl0]; simp; omega), chk_of (by rw [hbl0]; simp; omega), chk_of (by rw [hbl0, Kerb.room_ok (by omega)]; rfl)]
  rw [if_neg c1, sel_neg (by simpa using c1)]
  by_cases c2 : Int.tmod how 4 = 2
  · rw [if_pos c2, sel_pos (by simpa using c2), chk_of (Kerb.room_ok (by simp; omega))]
  · rw [if_neg c2, sel_neg (by simpa using c2)]

theorem w12 : Walked Tryz.prog G 12 1 sp12 := by
  refine ⟨Tryz.f12, Tryz.func12, by decide +kernel, rfl, fun xs bl r h => ?_⟩
  unfold sp12 at h
  split at h
  · obtain ⟨h1, h2⟩ := chk_inv h; cases h2; exact p12 _ _ h1
  · cases h

/- kerbsuite/kerbsuiteref22.SameRequest -/
theorem r17 (op : Int) (ux uy uz : List UInt8) (kv : Int) (rl tk sv ins bx : List UInt8) (op2 : Int) (ux2 uy2 uz2 : List UInt8) (kv2 : Int) (rl2 tk2 sv2 ins2 bx2 : List UInt8) : runFn (G.env 17 1) G.rts (G.own 17) Tryz.f17 [.agg [.int .i64 op, .str ux, .str uy, .str uz, .int .i64 kv, .str rl, .bs tk, .str sv, .str ins, .bs bx], .agg [.int .i64 op2, .str ux2, .str uy2, .str uz2, .int .i64 kv2, .str rl2, .bs tk2, .str sv2, .str ins2, .bs bx2]] [] = sel (op == op2) (sel (ux == ux2 && (uy == uy2 && uz == uz2)) (sel (kv == kv2) (sel (rl == rl2) (sel (tk == tk2) (sel (sv == sv2) (sel (ins == ins2) (some (AV.bool (bx == bx2), [])) (some (AV.bool false, []))) (some (AV.bool false, []))) (some (AV.bool false, []))) (some (AV.bool false, []))) (some (AV.bool false, []))) (some (AV.bool false, []))) (some (AV.bool false, [])) := by kernel_rfl

theorem p17 (op : Int) (ux uy uz : List UInt8) (kv : Int) (rl tk sv ins bx : List UInt8) (op2 : Int) (ux2 uy2 uz2 : List UInt8) (kv2 : Int) (rl2 tk2 sv2 ins2 bx2 : List UInt8) : runFn (G.env 17 1) G.rts (G.own 17) Tryz.f17 [.agg [.int .i64 op, .str ux, .str uy, .str uz, .int .i64 kv, .str rl, .bs tk, .str sv, .str ins, .bs bx], .agg [.int .i64 op2, .str ux2, .str uy2, .str uz2, .int .i64 kv2, .str rl2, .bs tk2, .str sv2, .str ins2, .bs bx2]] [] = some (.bool (op == op2 && (ux == ux2 && (uy == uy2 && uz == uz2)) && kv == kv2 && rl == rl2 && tk == tk2 && sv == sv2 && ins == ins2 && bx == bx2), []) := by
  rw [r17]
  cases (op == op2)
  · rfl
  cases (ux == ux2 && (uy == uy2 && uz == uz2))
  · rfl
  cases (kv == kv2)
  · rfl
  cases (rl == rl2)
  · rfl
  cases (tk == tk2)
  · rfl
  cases (sv == sv2)
  · rfl
  cases (ins == ins2)
  · rfl
  cases (bx == bx2) <;> rfl

theorem w17 : Walked Tryz.prog G 17 1 sp17 := by
  refine ⟨Tryz.f17, Tryz.func17, by decide +kernel, rfl, fun xs bl r h => ?_⟩
  unfold sp17 at h
  split at h
  · cases h; exact p17 _ _ _ _ _ _ _ _ _ _ _ _ _ _ _ _ _ _ _ _
  · cases h

/- kerbsuite/kerbsuiteref22.SameReply -/
theorem r22 (op cd : Int) (bx : List UInt8) (op2 cd2 : Int) (bx2 : List UInt8) : runFn (G.env 22 1) G.rts (G.own 22) Tryz.f22 [.agg [.int .i64 op, .int .i64 cd, .bs bx], .agg [.int .i64 op2, .int .i64 cd2, .bs bx2]] [] = sel (op == op2) (sel (cd == cd2) (some (AV.bool (bx == bx2), [])) (some (AV.bool false, []))) (some (AV.bool false, [])) := by kernel_rfl

theorem p22 (op cd : Int) (bx : List UInt8) (op2 cd2 : Int) (bx2 : List UInt8) : runFn (G.env 22 1) G.rts (G.own 22) Tryz.f22 [.agg [.int .i64 op, .int .i64 cd, .bs bx], .agg [.int .i64 op2, .int .i64 cd2, .bs bx2]] [] = some (.bool (op == op2 && cd == cd2 && bx == bx2), []) := by
  rw [r22]
  cases (op == op2)
  · rfl
  cases (cd == cd2)
  · rfl
  cases (bx == bx2) <;> rfl

theorem w22 : Walked Tryz.prog G 22 1 sp22 := by
  refine ⟨Tryz.f22, Tryz.func22, by decide +kernel, rfl, fun xs bl r h => ?_⟩
  unfold sp22 at h
  split at h
  · cases h; exact p22 _ _ _ _ _ _
  · cases h

/- kerbsuite/kerbsuiteref22.SameAnswer -/
theorem r23 (lb : List UInt8) (t k st en kv : Int) (x y z tk : List UInt8) (lb2 : List UInt8) (t2 k2 st2 en2 kv2 : Int) (x2 y2 z2 tk2 : List UInt8) : runFn (G.env 23 1) G.rts (G.own 23) Tryz.f23 [.agg [.str lb, .int .i64 t, .int .u64 k, .int .i64 st, .int .i64 en, .int .i64 kv, .str x, .str y, .str z, .bs tk], .agg [.str lb2, .int .i64 t2, .int .u64 k2, .int .i64 st2, .int .i64 en2, .int .i64 kv2, .str x2, .str y2, .str z2, .bs tk2]] [] = sel (lb == lb2) (sel (t == t2) (sel (k == k2) (sel (st == st2) (sel (en == en2) (sel (kv == kv2) (sel (x == x2 && (y == y2 && z == z2)) (some (AV.bool (tk == tk2), [])) (some (AV.bool false, []))) (some (AV.bool false, []))) (some (AV.bool false, []))) (some (AV.bool false, []))) (some (AV.bool false, []))) (some (AV.bool false, []))) (some (AV.bool false, [])) := by kernel_rfl

theorem p23 (lb : List UInt8) (t k st en kv : Int) (x y z tk : List UInt8) (lb2 : List UInt8) (t2 k2 st2 en2 kv2 : Int) (x2 y2 z2 tk2 : List UInt8) : runFn (G.env 23 1) G.rts (G.own 23) Tryz.f23 [.agg [.str lb, .int .i64 t, .int .u64 k, .int .i64 st, .int .i64 en, .int .i64 kv, .str x, .str y, .str z, .bs tk], .agg [.str lb2, .int .i64 t2, .int .u64 k2, .int .i64 st2, .int .i64 en2, .int .i64 kv2, .str x2, .str y2, .str z2, .bs tk2]] [] = some (.bool (lb == lb2 && t == t2 && k == k2 && st == st2 && en == en2 && kv == kv2 && (x == x2 && (y == y2 && z == z2)) && tk == tk2), []) := by
  rw [r23]
  cases (lb == lb2)
  · rfl
  cases (t == t2)
  · rfl
  cases (k == k2)
  · rfl
  cases (st == st2)
  · rfl
  cases (en == en2)
  · rfl
  cases (kv == kv2)
  · rfl
  cases (x == x2 && (y == y2 && z == z2))
  · rfl
  cases (tk == tk2) <;> rfl

theorem w23 : Walked Tryz.prog G 23 1 sp23 := by
  refine ⟨Tryz.f23, Tryz.func23, by decide +kernel, rfl, fun xs bl r h => ?_⟩
  unfold sp23 at h
  split at h
  · cases h; exact p23 _ _ _ _ _ _ _ _ _ _ _ _ _ _ _ _ _ _ _ _
  · cases h

/- kerbsuite/kerbsuiteref22.user -/
theorem r27 (n : Int) : runFn (G.env 27 1) G.rts (G.own 27) Tryz.f27 [.int .i64 n] [] = sel (n == (1 : Int)) (some (AV.bool true, [])) (some (AV.bool (n == (3 : Int)), [])) := by kernel_rfl

theorem p27 (n : Int) : runFn (G.env 27 1) G.rts (G.own 27) Tryz.f27 [.int .i64 n] [] = some (.bool (n == 1 || n == 3), []) := by
  rw [r27]
  cases (n == 1) <;> rfl

theorem w27 : Walked Tryz.prog G 27 1 sp27 := by
  refine ⟨Tryz.f27, Tryz.func27, by decide +kernel, rfl, fun xs bl r h => ?_⟩
  unfold sp27 at h
  split at h
  · cases h; exact p27 _
  · cases h

/- kerbsuite/kerbsuiteref22.within -/
theorem r32 (n m : Int) : runFn (G.env 32 1) G.rts (G.own 32) Tryz.f32 [.int .i64 n, .int .i64 m] [] = sel (decide (n ≥ (0 : Int))) (some (AV.bool (decide (n ≤ m)), [])) (some (AV.bool false, [])) := by kernel_rfl

theorem p32 (n m : Int) : runFn (G.env 32 1) G.rts (G.own 32) Tryz.f32 [.int .i64 n, .int .i64 m] [] = some (.bool (Kerb.within n m), []) := by
  rw [r32]
  by_cases h : 0 ≤ n <;> simp [sel, Kerb.within, h]

theorem w32 : Walked Tryz.prog G 32 1 sp32 := by
  refine ⟨Tryz.f32, Tryz.func32, by decide +kernel, rfl, fun xs bl r h => ?_⟩
  unfold sp32 at h
  split at h
  · cases h; exact p32 _ _
  · cases h

/- kerbsuite/kerbsuiteref8.Put -/
theorem r34 (k : Int) (little : Bool) : runFn (G.env 34 1) G.rts (G.own 34) Tryz.f34 [.int .i64 k, .bool little] [] = sel (decide (k < (1 : Int))) (some (AV.bs [], [])) (sel (decide (k > (10 : Int))) (some (AV.bs [], [])) (sel little (some (AV.bs [(4 : UInt8), UInt8.ofNat (Int.toNat (IntKind.wrap IntKind.u8 (IntKind.wrap IntKind.i64 (IntKind.wrap IntKind.i64 ((2 : Int) * k) + (1 : Int)))))], [])) (some (AV.bs [(4 : UInt8), UInt8.ofNat (Int.toNat (IntKind.wrap IntKind.u8 (IntKind.wrap IntKind.i64 ((2 : Int) * k))))], [])))) := by kernel_rfl

theorem p34 (k : Int) (little : Bool) : runFn (G.env 34 1) G.rts (G.own 34) Tryz.f34 [.int .i64 k, .bool little] [] = some (.bs (Kerb.header k little), []) := by
  rw [r34]
  by_cases h : 1 ≤ k ∧ k ≤ 10
  · have hk : k = 1 ∨ k = 2 ∨ k = 3 ∨ k = 4 ∨ k = 5 ∨ k = 6 ∨ k = 7 ∨ k = 8 ∨ k = 9 ∨ k = 10 := by omega
    rcases hk with rfl | rfl | rfl | rfl | rfl | rfl | rfl | rfl | rfl | rfl <;> cases little <;> rfl
  · have hk : Kerb.isKind k = false := by simp [Kerb.isKind]; omega
    by_cases h1 : k < 1
    · simp [sel, Kerb.header, hk, h1]
    · have h2 : 10 < k := by omega
      simp [sel, Kerb.header, hk, h1, h2]

theorem w34 : Walked Tryz.prog G 34 1 sp34 := by
  refine ⟨Tryz.f34, Tryz.func34, by decide +kernel, rfl, fun xs bl r h => ?_⟩
  unfold sp34 at h
  split at h
  · cases h; exact p34 _ _
  · cases h

/- kerbsuite/kerbsuiteref5.PutText -/
theorem r36 (b s : List UInt8) : runFn (G.env 36 1) G.rts (G.own 36) Tryz.f36 [.bs b, .str s] [] = chk (room (List.length b) (1 : Nat)) (chk (room (List.length b + List.length s) (1 : Nat)) (chk (room (List.length (b ++ s) + List.length [(0 : UInt8)]) (1 : Nat)) (some (AV.bs (b ++ s ++ [(0 : UInt8)]), [])))) := by kernel_rfl

theorem p36 (b s : List UInt8) (hpre : (decide (b.length + s.length ≤ 70368744177664)) = true) : runFn (G.env 36 1) G.rts (G.own 36) Tryz.f36 [.bs b, .str s] [] = some (.bs (Kerb.putText b s), []) := by
  rw [r36]
  simp only [decide_eq_true_eq] at hpre
  rw [chk_of (Kerb.room_ok (by omega)), chk_of (Kerb.room_ok (by omega)), chk_of (Kerb.room_ok (by simp; omega))]
  simp [Kerb.putText]

theorem w36 : Walked Tryz.prog G 36 1 sp36 := by
  refine ⟨Tryz.f36, Tryz.func36, by decide +kernel, rfl, fun xs bl r h => ?_⟩
  unfold sp36 at h
  split at h
  · obtain ⟨h1, h2⟩ := chk_inv h; cases h2; exact p36 _ _ h1
  · cases h

/- kerbsuite/kerbsuiteref3.Bytes -/
theorem r41 (k : Int) : runFn (G.env 41 1) G.rts (G.own 41) Tryz.f41 [.int .u64 k] [] = Option.bind (loopM (fun (st : List AV) => onCons st fun (x : AV) (r : List AV) => AV.onInt IntKind.u64 x fun (n : Int) => onCons r fun (x : AV) (r : List AV) => AV.onOwnB x fun (b : List UInt8) => onCons r fun (x : AV) (r : List AV) => AV.onInt IntKind.i64 x fun (n_1 : Int) => onNil r (sel (decide (n_1 ≥ (0 : Int))) (chk (decide ((0 : Int) ≤ IntKind.wrap IntKind.u64 (IntKind.wrap IntKind.i64 ((8 : Int) * n_1)))) (chk (room (List.length b + List.length [UInt8.ofNat (Int.toNat (IntKind.wrap IntKind.u8 (Int.fdiv n ((2 : Int) ^ min (Int.toNat (IntKind.wrap IntKind.u64 (IntKind.wrap IntKind.i64 ((8 : Int) * n_1)))) (IntKind.bits IntKind.u64)))))]) (1 : Nat)) (some (Sum.inl [AV.int IntKind.u64 n, AV.ownB (b ++ [UInt8.ofNat (Int.toNat (IntKind.wrap IntKind.u8 (Int.fdiv n ((2 : Int) ^ min (Int.toNat (IntKind.wrap IntKind.u64 (IntKind.wrap IntKind.i64 ((8 : Int) * n_1)))) (IntKind.bits IntKind.u64)))))]), AV.int IntKind.i64 (IntKind.wrap IntKind.i64 (n_1 - (1 : Int)))])))) (some (Sum.inr (Ex.exit (0 : Nat), [AV.int IntKind.u64 n, AV.ownB b, AV.int IntKind.i64 n_1]))))) [AV.int IntKind.u64 k, AV.ownB [], AV.int IntKind.i64 (7 : Int)]) fun (r : Ex × List AV) => onCons (Prod.snd r) fun (x : AV) (r_1 : List AV) => AV.onInt IntKind.u64 x fun (n : Int) => onCons r_1 fun (x : AV) (r_2 : List AV) => AV.onOwnB x fun (b : List UInt8) => onCons r_2 fun (x : AV) (r_3 : List AV) => AV.onInt IntKind.i64 x fun (n : Int) => onNil r_3 (exK r.1 none fun (j : Nat) => sel (Nat.beq j (0 : Nat)) (some (AV.bs b, [])) none) := by kernel_rfl

theorem p41 (k : Int) (hpre : (decide (0 ≤ k) && decide (k < 18446744073709551616)) = true) : runFn (G.env 41 1) G.rts (G.own 41) Tryz.f41 [.int .u64 k] [] = some (.bs (Kerb.keyBytes k), []) := by
  rw [r41]
  refine loop_unroll 9 (Ex.exit 0, [AV.int IntKind.u64 k, AV.ownB [Kerb.bfd k 56, Kerb.bfd k 48, Kerb.bfd k 40, Kerb.bfd k 32, Kerb.bfd k 24, Kerb.bfd k 16, Kerb.bfd k 8, Kerb.bfd k 0], AV.int IntKind.i64 (-1)]) (by kernel_rfl) ?_
  simp only [onInt_int, onU8_u8, onBool_bool, onStr_str, onBs_bs, onSl_sl, onAgg_agg, onTup_tup, onOwnB_ownB, onOwnL_ownL, onCons_cons, onNil_nil, onNilB_nil, onConsB_cons, chk_true, chk_bind, sel_bind, some_bind, exK_ret, exK_exit, sel_true, sel_false]
  rw [sel_pos (Nat.beq_refl _)]
  simp [Kerb.bfd_eq, Kerb.keyBytes, Kerb.byteAt, List.range_succ]

theorem w41 : Walked Tryz.prog G 41 1 sp41 := by
  refine ⟨Tryz.f41, Tryz.func41, by decide +kernel, rfl, fun xs bl r h => ?_⟩
  unfold sp41 at h
  split at h
  · obtain ⟨h1, h2⟩ := chk_inv h; cases h2; exact p41 _ h1
  · cases h

/- kerbsuite/kerbsuiteref5.Pad -/
theorem r42 (b : List UInt8) : runFn (G.env 42 1) G.rts (G.own 42) Tryz.f42 [.bs b] [] = chk (room (List.length b) (1 : Nat)) (Option.bind (loopM (fun (st : List AV) => onCons st fun (x : AV) (r : List AV) => AV.onOwnB x fun (b : List UInt8) => onNil r (sel (!Int.tmod (↑(List.length b) : Int) (8 : Int) == (0 : Int)) (chk (room (List.length b + List.length [(0 : UInt8)]) (1 : Nat)) (some (Sum.inl [AV.ownB (b ++ [(0 : UInt8)])]))) (some (Sum.inr (Ex.exit (0 : Nat), [AV.ownB b]))))) [AV.ownB b]) fun (r : Ex × List AV) => onCons (Prod.snd r) fun (x : AV) (r_1 : List AV) => AV.onOwnB x fun (b : List UInt8) => onNil r_1 (exK r.1 none fun (j : Nat) => sel (Nat.beq j (0 : Nat)) (some (AV.bs b, [])) none)) := by kernel_rfl

theorem p42 (b : List UInt8) (hpre : (decide (b.length ≤ 70368744177664)) = true) : runFn (G.env 42 1) G.rts (G.own 42) Tryz.f42 [.bs b] [] = some (.bs (Kerb.pad b), []) := by
  rw [r42]
  have hb := of_decide_eq_true hpre
  rw [chk_of (Kerb.room_ok (by omega))]
  refine loop_rounds (fun i : Nat => [AV.ownB (b ++ List.replicate i 0)]) (fun i => i ≤ (8 - b.length % 8) % 8) (fun i => (8 - b.length % 8) % 8 - i)
    (fun r => r = (Ex.exit 0, [AV.ownB (Kerb.pad b)])) 0 (by omega) (by simp) ?_ ?_
  · intro i hi
    simp only [onInt_int, onU8_u8, onBool_bool, onStr_str, onBs_bs, onSl_sl, onAgg_agg, onTup_tup, onOwnB_ownB, onOwnL_ownL, onCons_cons, onNil_nil, onNilB_nil, onConsB_cons, chk_true, chk_bind, sel_bind, some_bind, exK_ret, exK_exit, sel_true, sel_false]
    have e : Int.tmod ((b ++ List.replicate i 0).length : Int) 8 = (((b.length + i) % 8 : Nat) : Int) := by
      rw [Int.tmod_eq_emod_of_nonneg (by omega)]
      simp
    rw [e]
    by_cases hlt : i < (8 - b.length % 8) % 8
    · rw [sel_pos (by simp; omega), chk_of (Kerb.room_ok (by simp; omega))]
      refine ⟨_, rfl, i + 1, ?_, by omega, by dsimp only; omega⟩
      dsimp only
      rw [List.replicate_succ', List.append_assoc]
    · rw [sel_neg (by simp; omega)]
      refine ⟨_, rfl, ?_⟩
      show _ = _
      rw [Kerb.pad, show i = (8 - b.length % 8) % 8 from by omega]
  rintro r rfl
  simp only [onInt_int, onU8_u8, onBool_bool, onStr_str, onBs_bs, onSl_sl, onAgg_agg, onTup_tup, onOwnB_ownB, onOwnL_ownL, onCons_cons, onNil_nil, onNilB_nil, onConsB_cons, chk_true, chk_bind, sel_bind, some_bind, exK_ret, exK_exit, sel_true, sel_false]
  rw [sel_pos (Nat.beq_refl _)]

theorem w42 : Walked Tryz.prog G 42 1 sp42 := by
  refine ⟨Tryz.f42, Tryz.func42, by decide +kernel, rfl, fun xs bl r h => ?_⟩
  unfold sp42 at h
  split at h
  · obtain ⟨h1, h2⟩ := chk_inv h; cases h2; exact p42 _ h1
  · cases h

/- kerbsuite/kerbsuitedata.Long -/
theorem r43 (n : Int) : runFn (G.env 43 1) G.rts (G.own 43) Tryz.f43 [.int .i64 n] [] = some (AV.int IntKind.u64 (IntKind.wrap IntKind.u64 (↑(BitVec.toNat (BitVec.ofInt (IntKind.bits IntKind.u64) (72057594037927936 : Int) ||| BitVec.ofInt (IntKind.bits IntKind.u64) (IntKind.wrap IntKind.u64 (IntKind.wrap IntKind.i64 ((1 : Int) + n))))) : Int)), []) := by kernel_rfl

theorem p43 (n : Int) (hpre : (decide (0 ≤ n) && decide (n ≤ 1000)) = true) : runFn (G.env 43 1) G.rts (G.own 43) Tryz.f43 [.int .i64 n] [] = some (.int .u64 (Kerb.long n), []) := by
  rw [r43]
  rfl

theorem w43 : Walked Tryz.prog G 43 1 sp43 := by
  refine ⟨Tryz.f43, Tryz.func43, by decide +kernel, rfl, fun xs bl r h => ?_⟩
  unfold sp43 at h
  split at h
  · obtain ⟨h1, h2⟩ := chk_inv h; cases h2; exact p43 _ h1
  · cases h

/- kerbsuite/kerbsuitedata.Session -/
theorem r44 (n : Int) : runFn (G.env 44 1) G.rts (G.own 44) Tryz.f44 [.int .i64 n] [] = some (AV.int IntKind.u64 (IntKind.wrap IntKind.u64 (↑(BitVec.toNat (BitVec.ofInt (IntKind.bits IntKind.u64) (144115188075855872 : Int) ||| BitVec.ofInt (IntKind.bits IntKind.u64) (IntKind.wrap IntKind.u64 (IntKind.wrap IntKind.i64 ((1 : Int) + n))))) : Int)), []) := by kernel_rfl

theorem p44 (n : Int) (hpre : (decide (0 ≤ n) && decide (n ≤ 1000)) = true) : runFn (G.env 44 1) G.rts (G.own 44) Tryz.f44 [.int .i64 n] [] = some (.int .u64 (Kerb.session n), []) := by
  rw [r44]
  rfl

theorem w44 : Walked Tryz.prog G 44 1 sp44 := by
  refine ⟨Tryz.f44, Tryz.func44, by decide +kernel, rfl, fun xs bl r h => ?_⟩
  unfold sp44 at h
  split at h
  · obtain ⟨h1, h2⟩ := chk_inv h; cases h2; exact p44 _ h1
  · cases h

/- bytes.Equal -/
theorem r51 (a b : List UInt8) : runFn (G.env 51 1) G.rts (G.own 51) Tryz.f51 [.bs a, .bs b] [] = some (AV.bool (a == b), []) := by kernel_rfl

theorem p51 (a b : List UInt8) : runFn (G.env 51 1) G.rts (G.own 51) Tryz.f51 [.bs a, .bs b] [] = some (.bool (a == b), []) := by
  rw [r51]


theorem w51 : Walked Tryz.prog G 51 1 sp51 := by
  refine ⟨Tryz.f51, Tryz.func51, by decide +kernel, rfl, fun xs bl r h => ?_⟩
  unfold sp51 at h
  split at h
  · cases h; exact p51 _ _
  · cases h

/- kerbsuite/kamessage.timed -/
theorem r59 (l : List UInt8) : runFn (G.env 59 1) G.rts (G.own 59) Tryz.f59 [.str l] [] = sel (l == [(103 : UInt8), (84 : UInt8), (71 : UInt8), (83 : UInt8)]) (some (AV.bool true, [])) (some (AV.bool (l == [(103 : UInt8), (84 : UInt8), (75 : UInt8), (84 : UInt8)]), [])) := by kernel_rfl

theorem p59 (l : List UInt8) : runFn (G.env 59 1) G.rts (G.own 59) Tryz.f59 [.str l] [] = some (.bool (Kerb.timed l), []) := by
  rw [r59]
  unfold Kerb.timed
  show sel (l == Kerb.lGet) _ (some (AV.bool (l == Kerb.lTicket), [])) = _
  cases (l == Kerb.lGet) <;> rfl

theorem w59 : Walked Tryz.prog G 59 1 sp59 := by
  refine ⟨Tryz.f59, Tryz.func59, by decide +kernel, rfl, fun xs bl r h => ?_⟩
  unfold sp59 at h
  split at h
  · cases h; exact p59 _
  · cases h

/- kerbsuite/kamessage.ticketed -/
theorem r65 (l : List UInt8) : runFn (G.env 65 1) G.rts (G.own 65) Tryz.f65 [.str l] [] = sel (l == [(116 : UInt8), (103 : UInt8), (115 : UInt8), (84 : UInt8)]) (some (AV.bool true, [])) (some (AV.bool (l == [(116 : UInt8), (107 : UInt8), (116 : UInt8), (71 : UInt8)]), [])) := by kernel_rfl

theorem p65 (l : List UInt8) : runFn (G.env 65 1) G.rts (G.own 65) Tryz.f65 [.str l] [] = some (.bool (Kerb.ticketed l), []) := by
  rw [r65]
  unfold Kerb.ticketed
  show sel (l == Kerb.lGot) _ (some (AV.bool (l == Kerb.lGiven), [])) = _
  cases (l == Kerb.lGot) <;> rfl

theorem w65 : Walked Tryz.prog G 65 1 sp65 := by
  refine ⟨Tryz.f65, Tryz.func65, by decide +kernel, rfl, fun xs bl r h => ?_⟩
  unfold sp65 at h
  split at h
  · cases h; exact p65 _
  · cases h

/- kerbsuite/key.Bytes -/
theorem r68 (k : Int) : runFn (G.env 68 1) G.rts (G.own 68) Tryz.f68 [.int .u64 k] [] = Option.bind (loopM (fun (st : List AV) => onCons st fun (x : AV) (r : List AV) => AV.onInt IntKind.u64 x fun (n : Int) => onCons r fun (x : AV) (r : List AV) => AV.onOwnB x fun (b : List UInt8) => onCons r fun (x : AV) (r : List AV) => AV.onInt IntKind.i64 x fun (n_1 : Int) => onCons r fun (x : AV) (r : List AV) => AV.onInt IntKind.i64 x fun (n_2 : Int) => onNil r (sel (decide (n_2 < n_1)) (chk (decide ((0 : Int) ≤ IntKind.wrap IntKind.i64 ((8 : Int) * IntKind.wrap IntKind.i64 ((7 : Int) - n_2)))) (chk (decide ((0 : Int) ≤ n_2) && decide (n_2 < (↑(List.length b) : Int))) (chk (Nat.blt (Int.toNat n_2) (List.length b) && true && true && true && true) (some (Sum.inl [AV.int IntKind.u64 n, AV.ownB (List.set b (Int.toNat n_2) (UInt8.ofNat (Int.toNat (IntKind.wrap IntKind.u8 (Int.fdiv n ((2 : Int) ^ min (Int.toNat (IntKind.wrap IntKind.i64 ((8 : Int) * IntKind.wrap IntKind.i64 ((7 : Int) - n_2)))) (IntKind.bits IntKind.u64))))))), AV.int IntKind.i64 n_1, AV.int IntKind.i64 (IntKind.wrap IntKind.i64 (n_2 + (1 : Int)))]))))) (some (Sum.inr (Ex.exit (0 : Nat), [AV.int IntKind.u64 n, AV.ownB b, AV.int IntKind.i64 n_1, AV.int IntKind.i64 n_2]))))) [AV.int IntKind.u64 k, AV.ownB (List.replicate (Int.toNat (8 : Int)) (0 : UInt8)), AV.int IntKind.i64 (↑(List.length (List.replicate (Int.toNat (8 : Int)) (0 : UInt8))) : Int), AV.int IntKind.i64 (0 : Int)]) fun (r : Ex × List AV) => onCons (Prod.snd r) fun (x : AV) (r_1 : List AV) => AV.onInt IntKind.u64 x fun (n : Int) => onCons r_1 fun (x : AV) (r_2 : List AV) => AV.onOwnB x fun (b : List UInt8) => onCons r_2 fun (x : AV) (r_3 : List AV) => AV.onInt IntKind.i64 x fun (n : Int) => onCons r_3 fun (x : AV) (r_4 : List AV) => AV.onInt IntKind.i64 x fun (n : Int) => onNil r_4 (exK r.1 none fun (j : Nat) => sel (Nat.beq j (0 : Nat)) (some (AV.bs b, [])) none) := by kernel_rfl

theorem p68 (k : Int) (hpre : (decide (0 ≤ k) && decide (k < 18446744073709551616)) = true) : runFn (G.env 68 1) G.rts (G.own 68) Tryz.f68 [.int .u64 k] [] = some (.bs (Kerb.keyBytes k), []) := by
  rw [r68]
  refine loop_unroll 9 (Ex.exit 0, [AV.int IntKind.u64 k, AV.ownB [Kerb.bfd k 56, Kerb.bfd k 48, Kerb.bfd k 40, Kerb.bfd k 32, Kerb.bfd k 24, Kerb.bfd k 16, Kerb.bfd k 8, Kerb.bfd k 0], AV.int IntKind.i64 8, AV.int IntKind.i64 8]) (by kernel_rfl) ?_
  simp only [onInt_int, onU8_u8, onBool_bool, onStr_str, onBs_bs, onSl_sl, onAgg_agg, onTup_tup, onOwnB_ownB, onOwnL_ownL, onCons_cons, onNil_nil, onNilB_nil, onConsB_cons, chk_true, chk_bind, sel_bind, some_bind, exK_ret, exK_exit, sel_true, sel_false]
  rw [sel_pos (Nat.beq_refl _)]
  simp [Kerb.bfd_eq, Kerb.keyBytes, Kerb.byteAt, List.range_succ]

theorem w68 : Walked Tryz.prog G 68 1 sp68 := by
  refine ⟨Tryz.f68, Tryz.func68, by decide +kernel, rfl, fun xs bl r h => ?_⟩
  unfold sp68 at h
  split at h
  · obtain ⟨h1, h2⟩ := chk_inv h; cases h2; exact p68 _ h1
  · cases h

/- kerbsuite/kerbsuiteref1.text -/
theorem r78 (s bad : List UInt8) : runFn (G.env 78 1) G.rts (G.own 78) Tryz.f78 [.str s, .str bad] [] = Option.bind (loopM (fun (st : List AV) => onCons st fun (x : AV) (r : List AV) => AV.onStr x fun (b : List UInt8) => onCons r fun (x : AV) (r : List AV) => AV.onStr x fun (b_1 : List UInt8) => onCons r fun (x : AV) (r : List AV) => AV.onBool x fun (b_2 : Bool) => onCons r fun (x : AV) (r : List AV) => AV.onInt IntKind.i64 x fun (n : Int) => onNil r (sel (decide (n < (↑(List.length b) : Int))) (chk (decide ((0 : Int) ≤ n) && decide (n < (↑(List.length b) : Int))) (sel (decide ((↑(UInt8.toNat (List.getD b (Int.toNat n) (0 : UInt8))) : Int) < (↑(UInt8.toNat (33 : UInt8)) : Int))) (some (Sum.inr (Ex.ret, [AV.str b, AV.str b_1, AV.bool false, AV.int IntKind.i64 n]))) (chk (decide ((0 : Int) ≤ n) && decide (n < (↑(List.length b) : Int))) (sel (decide ((↑(UInt8.toNat (List.getD b (Int.toNat n) (0 : UInt8))) : Int) > (↑(UInt8.toNat (126 : UInt8)) : Int))) (some (Sum.inr (Ex.ret, [AV.str b, AV.str b_1, AV.bool false, AV.int IntKind.i64 n]))) (Option.bind (loopM (fun (st : List AV) => onCons st fun (x : AV) (r : List AV) => AV.onStr x fun (b : List UInt8) => onCons r fun (x : AV) (r : List AV) => AV.onStr x fun (b_3 : List UInt8) => onCons r fun (x : AV) (r : List AV) => AV.onBool x fun (b_4 : Bool) => onCons r fun (x : AV) (r : List AV) => AV.onInt IntKind.i64 x fun (n : Int) => onCons r fun (x : AV) (r : List AV) => AV.onInt IntKind.i64 x fun (n_1 : Int) => onNil r (sel (decide (n_1 < (↑(List.length b_3) : Int))) (chk (decide ((0 : Int) ≤ n) && decide (n < (↑(List.length b) : Int))) (chk (decide ((0 : Int) ≤ n_1) && decide (n_1 < (↑(List.length b_3) : Int))) (sel (List.getD b (Int.toNat n) (0 : UInt8) == List.getD b_3 (Int.toNat n_1) (0 : UInt8)) (some (Sum.inr (Ex.ret, [AV.str b, AV.str b_3, AV.bool false, AV.int IntKind.i64 n, AV.int IntKind.i64 n_1]))) (some (Sum.inl [AV.str b, AV.str b_3, AV.bool b_4, AV.int IntKind.i64 n, AV.int IntKind.i64 (IntKind.wrap IntKind.i64 (n_1 + (1 : Int)))]))))) (some (Sum.inr (Ex.exit (2 : Nat), [AV.str b, AV.str b_3, AV.bool b_4, AV.int IntKind.i64 n, AV.int IntKind.i64 n_1]))))) [AV.str b, AV.str b_1, AV.bool b_2, AV.int IntKind.i64 n, AV.int IntKind.i64 (0 : Int)]) fun (r : Ex × List AV) => onCons (Prod.snd r) fun (x : AV) (r_1 : List AV) => AV.onStr x fun (b : List UInt8) => onCons r_1 fun (x : AV) (r_2 : List AV) => AV.onStr x fun (b_3 : List UInt8) => onCons r_2 fun (x : AV) (r_3 : List AV) => AV.onBool x fun (b_4 : Bool) => onCons r_3 fun (x : AV) (r_4 : List AV) => AV.onInt IntKind.i64 x fun (n : Int) => onCons r_4 fun (x : AV) (r_5 : List AV) => AV.onInt IntKind.i64 x fun (n_1 : Int) => onNil r_5 (exK r.1 (some (Sum.inr (Ex.ret, [AV.str b, AV.str b_3, AV.bool b_4, AV.int IntKind.i64 n]))) fun (j : Nat) => sel (Nat.beq j (2 : Nat)) (some (Sum.inl [AV.str b, AV.str b_3, AV.bool b_4, AV.int IntKind.i64 (IntKind.wrap IntKind.i64 (n + (1 : Int)))])) none)))))) (some (Sum.inr (Ex.exit (0 : Nat), [AV.str b, AV.str b_1, AV.bool b_2, AV.int IntKind.i64 n]))))) [AV.str s, AV.str bad, AV.bool false, AV.int IntKind.i64 (0 : Int)]) fun (r : Ex × List AV) => onCons (Prod.snd r) fun (x : AV) (r_1 : List AV) => AV.onStr x fun (b : List UInt8) => onCons r_1 fun (x : AV) (r_2 : List AV) => AV.onStr x fun (b_1 : List UInt8) => onCons r_2 fun (x : AV) (r_3 : List AV) => AV.onBool x fun (b_2 : Bool) => onCons r_3 fun (x : AV) (r_4 : List AV) => AV.onInt IntKind.i64 x fun (n : Int) => onNil r_4 (exK r.1 (some (AV.bool b_2, [])) fun (j : Nat) => sel (Nat.beq j (0 : Nat)) (some (AV.bool (decide ((↑(List.length b) : Int) ≤ (39 : Int))), [])) none) := by kernel_rfl

theorem p78 (s bad : List UInt8) (hpre : (decide (s.length ≤ 4611686018427387904) && decide (bad.length ≤ 100)) = true) : runFn (G.env 78 1) G.rts (G.own 78) Tryz.f78 [.str s, .str bad] [] = some (.bool (Kerb.printable s bad && decide (s.length ≤ 39)), []) := by
  rw [r78]
  simp only [Bool.and_eq_true, decide_eq_true_eq] at hpre
  refine loop_rounds (fun i : Nat => [AV.str s, AV.str bad, AV.bool false, AV.int IntKind.i64 (i : Int)]) (fun i => i ≤ s.length ∧ Kerb.printable s bad = Kerb.printable (s.drop i) bad) (fun i => s.length - i)
    (fun r => ∃ i : Nat, r.2 = [AV.str s, AV.str bad, AV.bool false, AV.int IntKind.i64 (i : Int)] ∧ ((r.1 = .ret ∧ Kerb.printable s bad = false) ∨ (r.1 = .exit 0 ∧ Kerb.printable s bad = true))) 0 ⟨Nat.zero_le _, rfl⟩ rfl ?_ ?_
  · rintro i ⟨hi, hp⟩
    simp only [onInt_int, onU8_u8, onBool_bool, onStr_str, onBs_bs, onSl_sl, onAgg_agg, onTup_tup, onOwnB_ownB, onOwnL_ownL, onCons_cons, onNil_nil, onNilB_nil, onConsB_cons, chk_true, chk_bind, sel_bind, some_bind, exK_ret, exK_exit, sel_true, sel_false]
    by_cases hlt : i < s.length
    · have hc : (decide ((0 : Int) ≤ (i : Int)) && decide ((i : Int) < (s.length : Int))) = true := by simp; omega
      have hd := Kerb.drop_all_cons hlt
      rw [sel_pos (by simp; omega), chk_of hc, Int.toNat_natCast]
      have hpr : Kerb.printable (s.drop i) bad = (Kerb.okB bad (s.getD i 0) && Kerb.printable (s.drop (i + 1)) bad) := by rw [hd]; rfl
      generalize hcc : s.getD i 0 = c at *
      by_cases h1 : c.toNat < 33
      · rw [sel_pos (by simp; omega)]
        exact ⟨_, rfl, i, rfl, .inl ⟨rfl, by rw [hp, hpr]; simp [Kerb.okB, h1]⟩⟩
      rw [sel_neg (by simp; omega), chk_of hc]
      by_cases h2 : 126 < c.toNat
      · rw [sel_pos (by simp; omega)]
        exact ⟨_, rfl, i, rfl, .inl ⟨rfl, by rw [hp, hpr]; simp [Kerb.okB, h2]⟩⟩
      rw [sel_neg (by simp; omega)]
      refine loop_ex (fun j : Nat => [AV.str s, AV.str bad, AV.bool false, AV.int IntKind.i64 (i : Int), AV.int IntKind.i64 (j : Int)]) (fun j => j ≤ bad.length ∧ (c ∈ bad ↔ c ∈ bad.drop j)) (fun j => bad.length - j)
        (fun r => ∃ j : Nat, r.2 = [AV.str s, AV.str bad, AV.bool false, AV.int IntKind.i64 (i : Int), AV.int IntKind.i64 (j : Int)] ∧ ((r.1 = .ret ∧ c ∈ bad) ∨ (r.1 = .exit 2 ∧ c ∉ bad))) 0 ⟨Nat.zero_le _, by simp⟩ rfl ?_ ?_
      · rintro j ⟨hj, hm⟩
        simp only [onInt_int, onU8_u8, onBool_bool, onStr_str, onBs_bs, onSl_sl, onAgg_agg, onTup_tup, onOwnB_ownB, onOwnL_ownL, onCons_cons, onNil_nil, onNilB_nil, onConsB_cons, chk_true, chk_bind, sel_bind, some_bind, exK_ret, exK_exit, sel_true, sel_false]
        by_cases hjl : j < bad.length
        · have hdj := Kerb.drop_all_cons hjl
          rw [sel_pos (by simp; omega), chk_of hc, chk_of (by simp; omega), Int.toNat_natCast, Int.toNat_natCast, hcc]
          rw [hdj, List.mem_cons] at hm
          by_cases h3 : c = bad.getD j 0
          · rw [sel_pos (by simpa using h3)]
            exact ⟨_, rfl, j, rfl, .inl ⟨rfl, hm.2 (.inl h3)⟩⟩
          · rw [sel_neg (by simpa using h3), wrap_i64 (by omega) (by omega)]
            exact ⟨_, rfl, j + 1, rfl, ⟨by omega, hm.trans ⟨fun h => h.resolve_left h3, .inr⟩⟩, by dsimp only; omega⟩
        · rw [sel_neg (by simp; omega)]
          refine ⟨_, rfl, j, rfl, .inr ⟨rfl, ?_⟩⟩
          rw [hm, List.drop_eq_nil_of_le (by omega)]; simp
      · rintro ⟨e, l⟩ ⟨j, rfl, ⟨rfl, h3⟩ | ⟨rfl, h3⟩⟩
        · simp only [onInt_int, onU8_u8, onBool_bool, onStr_str, onBs_bs, onSl_sl, onAgg_agg, onTup_tup, onOwnB_ownB, onOwnL_ownL, onCons_cons, onNil_nil, onNilB_nil, onConsB_cons, chk_true, chk_bind, sel_bind, some_bind, exK_ret, exK_exit, sel_true, sel_false]
          exact ⟨_, rfl, i, rfl, .inl ⟨rfl, by rw [hp, hpr]; simp [Kerb.okB, h3]⟩⟩
        · simp only [onInt_int, onU8_u8, onBool_bool, onStr_str, onBs_bs, onSl_sl, onAgg_agg, onTup_tup, onOwnB_ownB, onOwnL_ownL, onCons_cons, onNil_nil, onNilB_nil, onConsB_cons, chk_true, chk_bind, sel_bind, some_bind, exK_ret, exK_exit, sel_true, sel_false]
          rw [sel_pos (Nat.beq_refl _), wrap_i64 (by omega) (by omega)]
          exact ⟨_, rfl, i + 1, rfl, ⟨by omega, by rw [hp, hpr]; simp [Kerb.okB, h1, h2, h3]⟩, by dsimp only; omega⟩
    · rw [sel_neg (by simp; omega)]
      exact ⟨_, rfl, i, rfl, .inr ⟨rfl, by rw [hp, List.drop_eq_nil_of_le (by omega)]; rfl⟩⟩
  · rintro ⟨e, l⟩ ⟨i, rfl, ⟨rfl, hp⟩ | ⟨rfl, hp⟩⟩
    · simp only [onInt_int, onU8_u8, onBool_bool, onStr_str, onBs_bs, onSl_sl, onAgg_agg, onTup_tup, onOwnB_ownB, onOwnL_ownL, onCons_cons, onNil_nil, onNilB_nil, onConsB_cons, chk_true, chk_bind, sel_bind, some_bind, exK_ret, exK_exit, sel_true, sel_false, hp]
      rfl
    · simp only [onInt_int, onU8_u8, onBool_bool, onStr_str, onBs_bs, onSl_sl, onAgg_agg, onTup_tup, onOwnB_ownB, onOwnL_ownL, onCons_cons, onNil_nil, onNilB_nil, onConsB_cons, chk_true, chk_bind, sel_bind, some_bind, exK_ret, exK_exit, sel_true, sel_false, hp]
      rw [sel_pos (Nat.beq_refl _), decide_eq_decide.2 (show ((s.length : Int) ≤ 39) ↔ s.length ≤ 39 from by omega)]
      rfl

theorem w78 : Walked Tryz.prog G 78 1 sp78 := by
  refine ⟨Tryz.f78, Tryz.func78, by decide +kernel, rfl, fun xs bl r h => ?_⟩
  unfold sp78 at h
  split at h
  · obtain ⟨h1, h2⟩ := chk_inv h; cases h2; exact p78 _ _ h1
  · cases h

/- kerbsuite/kerbsuiteref5.put -/
theorem r79 (b : List UInt8) (n k : Int) (little : Bool) : runFn (G.env 79 1) G.rts (G.own 79) Tryz.f79 [.bs b, .int .i64 n, .int .i64 k, .bool little] [] = chk (room (List.length b) (1 : Nat)) (Option.bind (loopM (fun (st : List AV) => onCons st fun (x : AV) (r : List AV) => AV.onInt IntKind.i64 x fun (n : Int) => onCons r fun (x : AV) (r : List AV) => AV.onInt IntKind.i64 x fun (n_1 : Int) => onCons r fun (x : AV) (r : List AV) => AV.onBool x fun (b : Bool) => onCons r fun (x : AV) (r : List AV) => AV.onOwnB x fun (b_1 : List UInt8) => onCons r fun (x : AV) (r : List AV) => AV.onInt IntKind.i64 x fun (n_2 : Int) => onNil r (sel (decide (n_2 < n_1)) (sel b (chk (decide ((0 : Int) ≤ IntKind.wrap IntKind.u64 (IntKind.wrap IntKind.i64 ((8 : Int) * n_2)))) (chk (room (List.length b_1 + List.length [UInt8.ofNat (Int.toNat (IntKind.wrap IntKind.u8 (Int.fdiv (IntKind.wrap IntKind.u64 n) ((2 : Int) ^ min (Int.toNat (IntKind.wrap IntKind.u64 (IntKind.wrap IntKind.i64 ((8 : Int) * n_2)))) (IntKind.bits IntKind.u64)))))]) (1 : Nat)) (some (Sum.inl [AV.int IntKind.i64 n, AV.int IntKind.i64 n_1, AV.bool b, AV.ownB (b_1 ++ [UInt8.ofNat (Int.toNat (IntKind.wrap IntKind.u8 (Int.fdiv (IntKind.wrap IntKind.u64 n) ((2 : Int) ^ min (Int.toNat (IntKind.wrap IntKind.u64 (IntKind.wrap IntKind.i64 ((8 : Int) * n_2)))) (IntKind.bits IntKind.u64)))))]), AV.int IntKind.i64 (IntKind.wrap IntKind.i64 (n_2 + (1 : Int)))])))) (chk (decide ((0 : Int) ≤ IntKind.wrap IntKind.u64 (IntKind.wrap IntKind.i64 ((8 : Int) * IntKind.wrap IntKind.i64 (IntKind.wrap IntKind.i64 (n_1 - (1 : Int)) - n_2))))) (chk (room (List.length b_1 + List.length [UInt8.ofNat (Int.toNat (IntKind.wrap IntKind.u8 (Int.fdiv (IntKind.wrap IntKind.u64 n) ((2 : Int) ^ min (Int.toNat (IntKind.wrap IntKind.u64 (IntKind.wrap IntKind.i64 ((8 : Int) * IntKind.wrap IntKind.i64 (IntKind.wrap IntKind.i64 (n_1 - (1 : Int)) - n_2))))) (IntKind.bits IntKind.u64)))))]) (1 : Nat)) (some (Sum.inl [AV.int IntKind.i64 n, AV.int IntKind.i64 n_1, AV.bool b, AV.ownB (b_1 ++ [UInt8.ofNat (Int.toNat (IntKind.wrap IntKind.u8 (Int.fdiv (IntKind.wrap IntKind.u64 n) ((2 : Int) ^ min (Int.toNat (IntKind.wrap IntKind.u64 (IntKind.wrap IntKind.i64 ((8 : Int) * IntKind.wrap IntKind.i64 (IntKind.wrap IntKind.i64 (n_1 - (1 : Int)) - n_2))))) (IntKind.bits IntKind.u64)))))]), AV.int IntKind.i64 (IntKind.wrap IntKind.i64 (n_2 + (1 : Int)))]))))) (some (Sum.inr (Ex.exit (0 : Nat), [AV.int IntKind.i64 n, AV.int IntKind.i64 n_1, AV.bool b, AV.ownB b_1, AV.int IntKind.i64 n_2]))))) [AV.int IntKind.i64 n, AV.int IntKind.i64 k, AV.bool little, AV.ownB b, AV.int IntKind.i64 (0 : Int)]) fun (r : Ex × List AV) => onCons (Prod.snd r) fun (x : AV) (r_1 : List AV) => AV.onInt IntKind.i64 x fun (n : Int) => onCons r_1 fun (x : AV) (r_2 : List AV) => AV.onInt IntKind.i64 x fun (n : Int) => onCons r_2 fun (x : AV) (r_3 : List AV) => AV.onBool x fun (b : Bool) => onCons r_3 fun (x : AV) (r_4 : List AV) => AV.onOwnB x fun (b : List UInt8) => onCons r_4 fun (x : AV) (r_5 : List AV) => AV.onInt IntKind.i64 x fun (n : Int) => onNil r_5 (exK r.1 none fun (j : Nat) => sel (Nat.beq j (0 : Nat)) (some (AV.ownB b, [])) none)) := by kernel_rfl

theorem p79 (b : List UInt8) (n k : Int) (little : Bool) (hpre : (decide (k = 1 ∨ k = 2 ∨ k = 4) && decide (b.length ≤ 70368744177664)) = true) : runFn (G.env 79 1) G.rts (G.own 79) Tryz.f79 [.bs b, .int .i64 n, .int .i64 k, .bool little] [] = some (.ownB (b ++ Kerb.putN n k.toNat little), []) := by
  rw [r79]
  simp only [Bool.and_eq_true, decide_eq_true_eq] at hpre
  obtain ⟨hk, hb⟩ := hpre
  have hk4 : k.toNat ≤ 4 ∧ 0 ≤ k := by omega
  rw [chk_of (Kerb.room_ok (by omega))]
  refine loop_rounds (fun i : Nat => [AV.int IntKind.i64 n, AV.int IntKind.i64 k, AV.bool little, AV.ownB (b ++ (Kerb.putN n k.toNat little).take i), AV.int IntKind.i64 (i : Int)]) (fun i => i ≤ k.toNat) (fun i => k.toNat - i)
    (fun r => r = (Ex.exit 0, [AV.int IntKind.i64 n, AV.int IntKind.i64 k, AV.bool little, AV.ownB (b ++ Kerb.putN n k.toNat little), AV.int IntKind.i64 k])) 0 (Nat.zero_le _) (by simp) ?_ ?_
  · intro i hi
    simp only [onInt_int, onU8_u8, onBool_bool, onStr_str, onBs_bs, onSl_sl, onAgg_agg, onTup_tup, onOwnB_ownB, onOwnL_ownL, onCons_cons, onNil_nil, onNilB_nil, onConsB_cons, chk_true, chk_bind, sel_bind, some_bind, exK_ret, exK_exit, sel_true, sel_false]
    by_cases hlt : i < k.toNat
    · have hs := Kerb.take_succ_getD (l := Kerb.putN n k.toNat little) (i := i) (by rw [Kerb.putN_len]; omega)
      have hg := Kerb.putN_getD n k.toNat little hlt
      have hl : ((Kerb.putN n k.toNat little).take i).length = i := by simp [Kerb.putN_len]; omega
      rw [sel_pos (by simp; omega)]
      have hw : ∀ j : Nat, j < 4 → IntKind.wrap IntKind.u64 (IntKind.wrap IntKind.i64 (8 * (j : Int))) = ((8 * j : Nat) : Int) := fun j hj => by
        rw [wrap_i64 (by omega) (by omega), Kerb.wrap_u64]; omega
      have hm : ∀ j : Nat, j < 4 → min (Int.toNat ((8 * j : Nat) : Int)) (IntKind.bits IntKind.u64) = 8 * j := fun j hj => by
        have : IntKind.bits IntKind.u64 = 64 := rfl
        rw [this]; omega
      cases little
      · have e : IntKind.wrap IntKind.i64 (IntKind.wrap IntKind.i64 (k - 1) - (i : Int)) = ((k.toNat - 1 - i : Nat) : Int) := by
          rw [wrap_i64 (n := k - 1) (by omega) (by omega), wrap_i64 (by omega) (by omega)]; omega
        rw [sel_neg rfl, e, hw _ (by omega), hm _ (by omega), Kerb.ubyte n (by omega), chk_of (by simp; omega), chk_of (Kerb.room_ok (by simp [hl]; omega)), wrap_i64 (by omega) (by omega)]
        refine ⟨_, rfl, i + 1, ?_, by omega, by dsimp only; omega⟩
        dsimp only
        rw [hs, hg, ← List.append_assoc]
        rfl
      · rw [sel_pos rfl, hw _ (by omega), hm _ (by omega), Kerb.ubyte n (by omega), chk_of (by simp; omega), chk_of (Kerb.room_ok (by simp [hl]; omega)), wrap_i64 (by omega) (by omega)]
        refine ⟨_, rfl, i + 1, ?_, by omega, by dsimp only; omega⟩
        dsimp only
        rw [hs, hg, ← List.append_assoc]
        rfl
    · rw [sel_neg (by simp; omega)]
      refine ⟨_, rfl, ?_⟩
      show _ = _
      rw [List.take_of_length_le (by rw [Kerb.putN_len]; omega), show (i : Int) = k from by omega]
  · rintro r rfl
    simp only [onInt_int, onU8_u8, onBool_bool, onStr_str, onBs_bs, onSl_sl, onAgg_agg, onTup_tup, onOwnB_ownB, onOwnL_ownL, onCons_cons, onNil_nil, onNilB_nil, onConsB_cons, chk_true, chk_bind, sel_bind, some_bind, exK_ret, exK_exit, sel_true, sel_false]
    rw [sel_pos (Nat.beq_refl _)]

theorem w79 : Walked Tryz.prog G 79 1 sp79 := by
  refine ⟨Tryz.f79, Tryz.func79, by decide +kernel, rfl, fun xs bl r h => ?_⟩
  unfold sp79 at h
  split at h
  · obtain ⟨h1, h2⟩ := chk_inv h; cases h2; exact p79 _ _ _ _ h1
  · cases h

/- kerbsuite/kerbsuiteref3.Make -/
theorem r80 (c n : Int) : runFn (G.env 80 1) G.rts (G.own 80) Tryz.f80 [.int .i64 c, .int .i64 n] [] = sel (!c == (1 : Int)) (sel (!c == (2 : Int)) (some (AV.int IntKind.u64 (0 : Int), [])) (sel (decide (n < (1 : Int))) (some (AV.int IntKind.u64 (0 : Int), [])) (sel (decide (n > (4294967295 : Int))) (some (AV.int IntKind.u64 (0 : Int), [])) (some (AV.int IntKind.u64 (IntKind.wrap IntKind.u64 (↑(BitVec.toNat (BitVec.ofInt (IntKind.bits IntKind.u64) (IntKind.wrap IntKind.u64 (IntKind.wrap IntKind.u64 c * (2 : Int) ^ min (Int.toNat (56 : Int)) (IntKind.bits IntKind.u64))) ||| BitVec.ofInt (IntKind.bits IntKind.u64) (IntKind.wrap IntKind.u64 n))) : Int)), []))))) (sel (decide (n < (1 : Int))) (some (AV.int IntKind.u64 (0 : Int), [])) (sel (decide (n > (4294967295 : Int))) (some (AV.int IntKind.u64 (0 : Int), [])) (some (AV.int IntKind.u64 (IntKind.wrap IntKind.u64 (↑(BitVec.toNat (BitVec.ofInt (IntKind.bits IntKind.u64) (IntKind.wrap IntKind.u64 (IntKind.wrap IntKind.u64 c * (2 : Int) ^ min (Int.toNat (56 : Int)) (IntKind.bits IntKind.u64))) ||| BitVec.ofInt (IntKind.bits IntKind.u64) (IntKind.wrap IntKind.u64 n))) : Int)), [])))) := by kernel_rfl

theorem p80 (c n : Int) : runFn (G.env 80 1) G.rts (G.own 80) Tryz.f80 [.int .i64 c, .int .i64 n] [] = some (.int .u64 (cond (Kerb.isClass c && Kerb.isSerial n) (c * 72057594037927936 + n) 0), []) := by
  rw [r80]
  unfold Kerb.isClass Kerb.isSerial
  by_cases hc : c = 1 ∨ c = 2
  case neg =>
    have q1 : (c == (1 : Int)) = false := by simp; omega
    have q2 : (c == (2 : Int)) = false := by simp; omega
    rw [q1, q2]
    rfl
  by_cases hn : 1 ≤ n ∧ n ≤ 4294967295
  case neg =>
    have q : (decide (1 ≤ n) && decide (n ≤ 4294967295)) = false := by
      rw [Bool.eq_false_iff]
      simp
      omega
    rw [q, Bool.and_false]
    have key : (sel (decide (n < (1 : Int))) (some (AV.int .u64 (0 : Int), ([] : Blocks))) (sel (decide (n > (4294967295 : Int))) (some (AV.int .u64 (0 : Int), [])) (some (AV.int IntKind.u64 (IntKind.wrap IntKind.u64 ((BitVec.toNat (BitVec.ofInt (IntKind.bits IntKind.u64) (IntKind.wrap IntKind.u64 (IntKind.wrap IntKind.u64 c * (2 : Int) ^ min (Int.toNat (56 : Int)) (IntKind.bits IntKind.u64))) ||| BitVec.ofInt (IntKind.bits IntKind.u64) (IntKind.wrap IntKind.u64 n)) : Nat) : Int)), [])))) = some (AV.int .u64 0, []) := by
      by_cases hl : n < 1
      · rw [sel_pos (by simpa using hl)]
      · rw [sel_neg (by simpa using hl), sel_pos (by simp; omega)]
    rcases hc with rfl | rfl
    · rw [sel_neg (by decide)]; exact key
    · rw [sel_pos (by decide), sel_neg (by decide)]; exact key
  have q : (decide (1 ≤ n) && decide (n ≤ 4294967295)) = true := by simp; omega
  have q2 : (c == (1 : Int) || c == (2 : Int)) = true := by simpa using hc
  rw [q, q2, Kerb.key_make hc hn.1 hn.2]
  rcases hc with rfl | rfl
  · rw [sel_neg (by decide), sel_neg (by simp; omega), sel_neg (by simp; omega)]
    rfl
  · rw [sel_pos (by decide), sel_neg (by decide), sel_neg (by simp; omega), sel_neg (by simp; omega)]
    rfl

theorem w80 : Walked Tryz.prog G 80 1 sp80 := by
  refine ⟨Tryz.f80, Tryz.func80, by decide +kernel, rfl, fun xs bl r h => ?_⟩
  unfold sp80 at h
  split at h
  · cases h; exact p80 _ _
  · cases h

/- kerbsuite/header.among -/
theorem r82 (k : Int) (els : List AV) : runFn (G.env 82 1) G.rts (G.own 82) Tryz.f82 [.int .i64 k, .sl 1 els] [] = Option.bind (loopM (fun (st : List AV) => onCons st fun (x : AV) (r : List AV) => AV.onInt IntKind.i64 x fun (n : Int) => onCons r fun (x : AV) (r : List AV) => AV.onBool x fun (b : Bool) => onCons r fun (x : AV) (r : List AV) => AV.onSl (1 : Nat) x fun (b_1 : List AV) => onCons r fun (x : AV) (r : List AV) => AV.onInt IntKind.i64 x fun (n_1 : Int) => onCons r fun (x : AV) (r : List AV) => AV.onInt IntKind.i64 x fun (n_2 : Int) => onNil r (sel (decide (n_2 < n_1)) (chk (decide ((0 : Int) ≤ n_2) && decide (n_2 < (↑(List.length b_1) : Int)) && true) (AV.onInt IntKind.i64 (List.getD b_1 (Int.toNat n_2) AV.undef) fun (n_3 : Int) => sel (n_3 == n) (some (Sum.inr (Ex.ret, [AV.int IntKind.i64 n, AV.bool true, AV.sl (1 : Nat) b_1, AV.int IntKind.i64 n_1, AV.int IntKind.i64 n_2]))) (some (Sum.inl [AV.int IntKind.i64 n, AV.bool b, AV.sl (1 : Nat) b_1, AV.int IntKind.i64 n_1, AV.int IntKind.i64 (IntKind.wrap IntKind.i64 (n_2 + (1 : Int)))])))) (some (Sum.inr (Ex.exit (0 : Nat), [AV.int IntKind.i64 n, AV.bool b, AV.sl (1 : Nat) b_1, AV.int IntKind.i64 n_1, AV.int IntKind.i64 n_2]))))) [AV.int IntKind.i64 k, AV.bool false, AV.sl (1 : Nat) els, AV.int IntKind.i64 (↑(List.length els) : Int), AV.int IntKind.i64 (0 : Int)]) fun (r : Ex × List AV) => onCons (Prod.snd r) fun (x : AV) (r_1 : List AV) => AV.onInt IntKind.i64 x fun (n : Int) => onCons r_1 fun (x : AV) (r_2 : List AV) => AV.onBool x fun (b : Bool) => onCons r_2 fun (x : AV) (r_3 : List AV) => AV.onSl (1 : Nat) x fun (b_1 : List AV) => onCons r_3 fun (x : AV) (r_4 : List AV) => AV.onInt IntKind.i64 x fun (n : Int) => onCons r_4 fun (x : AV) (r_5 : List AV) => AV.onInt IntKind.i64 x fun (n : Int) => onNil r_5 (exK r.1 (some (AV.bool b, [])) fun (j : Nat) => sel (Nat.beq j (0 : Nat)) (some (AV.bool false, [])) none) := by kernel_rfl

theorem p82 (k : Int) (els : List AV) (hpre : (allInts els && decide (els.length ≤ 1000)) = true) : runFn (G.env 82 1) G.rts (G.own 82) Tryz.f82 [.int .i64 k, .sl 1 els] [] = some (.bool ((intsIn els).contains k), []) := by
  rw [r82]
  simp only [Bool.and_eq_true, decide_eq_true_eq] at hpre
  obtain ⟨ha, hl⟩ := hpre
  have hil := Kerb.ints_len ha
  refine loop_rounds (fun i : Nat => [AV.int IntKind.i64 k, AV.bool false, AV.sl 1 els, AV.int IntKind.i64 (els.length : Int), AV.int IntKind.i64 (i : Int)]) (fun i => i ≤ els.length ∧ (k ∈ intsIn els ↔ k ∈ (intsIn els).drop i)) (fun i => els.length - i)
    (fun r => ∃ (i : Nat) (x : Bool), r.2 = [AV.int IntKind.i64 k, AV.bool x, AV.sl 1 els, AV.int IntKind.i64 (els.length : Int), AV.int IntKind.i64 (i : Int)] ∧ ((r.1 = .ret ∧ x = true ∧ k ∈ intsIn els) ∨ (r.1 = .exit 0 ∧ k ∉ intsIn els))) 0 ⟨Nat.zero_le _, by simp⟩ rfl ?_ ?_
  · rintro i ⟨hi, hm⟩
    simp only [onInt_int, onU8_u8, onBool_bool, onStr_str, onBs_bs, onSl_sl, onAgg_agg, onTup_tup, onOwnB_ownB, onOwnL_ownL, onCons_cons, onNil_nil, onNilB_nil, onConsB_cons, chk_true, chk_bind, sel_bind, some_bind, exK_ret, exK_exit, sel_true, sel_false]
    by_cases hlt : i < els.length
    · obtain ⟨n, h1, h2⟩ := Kerb.ints_get ha hlt
      rw [sel_pos (by simp; omega), chk_of (by simp; omega), Int.toNat_natCast, h1, onInt_int]
      rw [h2, List.mem_cons] at hm
      by_cases h3 : n = k
      · rw [sel_pos (by simpa using h3)]
        exact ⟨_, rfl, i, true, rfl, .inl ⟨rfl, rfl, hm.2 (.inl h3.symm)⟩⟩
      · rw [sel_neg (by simpa using h3), wrap_i64 (by omega) (by omega)]
        exact ⟨_, rfl, i + 1, rfl, ⟨by omega, hm.trans ⟨fun h => h.resolve_left fun e => h3 e.symm, .inr⟩⟩, by dsimp only; omega⟩
    · rw [sel_neg (by simp; omega)]
      refine ⟨_, rfl, i, false, rfl, .inr ⟨rfl, ?_⟩⟩
      rw [hm, List.drop_eq_nil_of_le (by omega)]; simp
  · rintro ⟨e, l⟩ ⟨i, x, rfl, ⟨rfl, rfl, h⟩ | ⟨rfl, h⟩⟩
    · simp [onCons, AV.onInt, AV.onBool, AV.onSl, onNil, exK, h]
    · simp [onCons, AV.onInt, AV.onBool, AV.onSl, onNil, exK, h, sel]

theorem w82 : Walked Tryz.prog G 82 1 sp82 := by
  refine ⟨Tryz.f82, Tryz.func82, by decide +kernel, rfl, fun xs bl r h => ?_⟩
  unfold sp82 at h
  split at h
  · obtain ⟨h1, h2⟩ := chk_inv h; cases h2; exact p82 _ _ h1
  · cases h

/- (*kerbsuite/kamessage.reader).take -/
theorem r84 (B : List UInt8) (at_ : Int) (bad : Bool) (nx e : Int) : runFn (G.env 84 1) G.rts (G.own 84) Tryz.f84 [.ptr 0 0, .int .i64 nx, .int .i64 e] [(0, [.bs B, .int .i64 at_, .bool bad])] = sel bad (some (AV.bool false, [[AV.bs B, AV.int IntKind.i64 at_, AV.bool true]])) (sel (!e == (0 : Int)) (some (AV.bool false, [[AV.bs B, AV.int IntKind.i64 at_, AV.bool true]])) (some (AV.bool true, [[AV.bs B, AV.int IntKind.i64 nx, AV.bool bad]]))) := by kernel_rfl

theorem p84 (B : List UInt8) (at_ : Int) (bad : Bool) (nx e : Int) : runFn (G.env 84 1) G.rts (G.own 84) Tryz.f84 [.ptr 0 0, .int .i64 nx, .int .i64 e] [(0, [.bs B, .int .i64 at_, .bool bad])] = some (.bool (!(bad || !(e == 0))), [[.bs B, .int .i64 (cond (bad || !(e == 0)) at_ nx), .bool (bad || !(e == 0))]]) := by
  rw [r84]
  cases bad
  · cases (e == 0) <;> rfl
  · rfl

theorem w84 : Walked Tryz.prog G 84 1 sp84 := by
  refine ⟨Tryz.f84, Tryz.func84, by decide +kernel, rfl, fun xs bl r h => ?_⟩
  unfold sp84 at h
  split at h
  · cases h; exact p84 _ _ _ _ _
  · cases h

/- kerbsuite/kerbsuiteref8.Read -/
theorem r89 (b : List UInt8) : runFn (G.env 89 1) G.rts (G.own 89) Tryz.f89 [.bs b] [] = sel (decide ((↑(List.length b) : Int) < (2 : Int))) (some (AV.tup [AV.int IntKind.i64 (0 : Int), AV.bool false, AV.int IntKind.i64 (101 : Int)], [])) (chk (decide ((0 : Int) < (↑(List.length b) : Int))) (sel (!List.getD b (Int.toNat (0 : Int)) (0 : UInt8) == (4 : UInt8)) (some (AV.tup [AV.int IntKind.i64 (0 : Int), AV.bool false, AV.int IntKind.i64 (39 : Int)], [])) (chk (decide ((1 : Int) < (↑(List.length b) : Int))) (sel (decide (IntKind.wrap IntKind.i64 (↑(UInt8.toNat (UInt8.ofNat (Int.toNat (IntKind.wrap IntKind.u8 (Int.tdiv (↑(UInt8.toNat (List.getD b (Int.toNat (1 : Int)) (0 : UInt8))) : Int) (↑(UInt8.toNat (2 : UInt8)) : Int)))))) : Int) < (1 : Int))) (some (AV.tup [AV.int IntKind.i64 (0 : Int), AV.bool false, AV.int IntKind.i64 (40 : Int)], [])) (sel (decide (IntKind.wrap IntKind.i64 (↑(UInt8.toNat (UInt8.ofNat (Int.toNat (IntKind.wrap IntKind.u8 (Int.tdiv (↑(UInt8.toNat (List.getD b (Int.toNat (1 : Int)) (0 : UInt8))) : Int) (↑(UInt8.toNat (2 : UInt8)) : Int)))))) : Int) > (10 : Int))) (some (AV.tup [AV.int IntKind.i64 (0 : Int), AV.bool false, AV.int IntKind.i64 (40 : Int)], [])) (chk (decide ((1 : Int) < (↑(List.length b) : Int))) (some (AV.tup [AV.int IntKind.i64 (IntKind.wrap IntKind.i64 (↑(UInt8.toNat (UInt8.ofNat (Int.toNat (IntKind.wrap IntKind.u8 (Int.tdiv (↑(UInt8.toNat (List.getD b (Int.toNat (1 : Int)) (0 : UInt8))) : Int) (↑(UInt8.toNat (2 : UInt8)) : Int)))))) : Int)), AV.bool (UInt8.ofNat (Int.toNat (Int.tmod (↑(UInt8.toNat (List.getD b (Int.toNat (1 : Int)) (0 : UInt8))) : Int) (↑(UInt8.toNat (2 : UInt8)) : Int))) == (1 : UInt8)), AV.int IntKind.i64 (0 : Int)], [])))))))) := by kernel_rfl

theorem p89 (b : List UInt8) : runFn (G.env 89 1) G.rts (G.own 89) Tryz.f89 [.bs b] [] = some (.tup [.int .i64 (Kerb.readHead b).kind, .bool (Kerb.readHead b).little, .int .i64 (Kerb.readHead b).err], []) := by
  rw [r89]
  unfold Kerb.readHead
  by_cases h1 : b.length < 2
  · rw [sel_pos (by simp; omega)]
    simp [h1]
  rw [sel_neg (by simp; omega), chk_of (by simp; omega), if_neg h1]
  by_cases h2 : b.getD 0 0 = 4
  · have hb := (b.getD 1 0).toNat_lt
    have e : IntKind.wrap IntKind.i64 ((UInt8.ofNat (Int.toNat (IntKind.wrap IntKind.u8 (Int.tdiv ((b.getD (Int.toNat 1) 0).toNat : Int) ((2 : UInt8).toNat : Int))))).toNat : Int) = (((b.getD 1 0).toNat / 2 : Nat) : Int) := by
      rw [show Int.toNat 1 = 1 from rfl, show ((2 : UInt8).toNat : Int) = 2 from rfl, Int.tdiv_eq_ediv_of_nonneg (by omega), Kerb.wrap_u8]
      have e3 : Int.toNat (((b.getD 1 0).toNat : Int) / 2 % 256) = (b.getD 1 0).toNat / 2 := by omega
      rw [e3, UInt8.toNat_ofNat_of_lt' (by show _ < 256; omega), wrap_i64 (by omega) (by omega)]
    have e2 : (UInt8.ofNat (Int.toNat (Int.tmod ((b.getD (Int.toNat 1) 0).toNat : Int) ((2 : UInt8).toNat : Int))) == 1) = decide ((b.getD 1 0).toNat % 2 = 1) := by
      rw [show Int.toNat 1 = 1 from rfl, Int.tmod_eq_emod_of_nonneg (by omega)]
      have e3 : Int.toNat (((b.getD 1 0).toNat : Int) % ((2 : UInt8).toNat : Int)) = (b.getD 1 0).toNat % 2 := by
        show Int.toNat (((b.getD 1 0).toNat : Int) % 2) = _
        omega
      rw [e3]
      rcases Nat.mod_two_eq_zero_or_one (b.getD 1 0).toNat with h | h <;> rw [h] <;> rfl
    rw [sel_neg (by simp [h2] at *; exact h2), chk_of (by simp; omega), if_neg (by simpa using h2), e, e2]
    generalize (b.getD 1 0).toNat / 2 = m
    unfold Kerb.isKind
    by_cases h3 : 1 ≤ m
    case neg =>
      rw [sel_pos (by simp; omega), if_neg (by simp; omega)]
    by_cases h4 : m ≤ 10
    case neg =>
      rw [sel_neg (by simp; omega), sel_pos (by simp; omega), if_neg (by simp; omega)]
    rw [sel_neg (by simp; omega), sel_neg (by simp; omega), chk_of (by simp; omega), if_pos (by simp; omega)]
  · rw [sel_pos (by simpa using h2), if_pos (by simpa using h2)]

theorem w89 : Walked Tryz.prog G 89 1 sp89 := by
  refine ⟨Tryz.f89, Tryz.func89, by decide +kernel, rfl, fun xs bl r h => ?_⟩
  unfold sp89 at h
  split at h
  · cases h; exact p89 _
  · cases h

/- (*kerbsuite/kerbsuiteref5.Reader).move -/
theorem r91 (B : List UInt8) (at_ : Int) (li bad : Bool) (nx e : Int) : runFn (G.env 91 1) G.rts (G.own 91) Tryz.f91 [.ptr 0 0, .int .i64 nx, .int .i64 e] [(0, [.bs B, .int .i64 at_, .bool li, .bool bad])] = sel bad (some (AV.tup [], [[AV.bs B, AV.int IntKind.i64 at_, AV.bool li, AV.bool true]])) (sel (!e == (0 : Int)) (some (AV.tup [], [[AV.bs B, AV.int IntKind.i64 at_, AV.bool li, AV.bool true]])) (some (AV.tup [], [[AV.bs B, AV.int IntKind.i64 nx, AV.bool li, AV.bool bad]]))) := by kernel_rfl

theorem p91 (B : List UInt8) (at_ : Int) (li bad : Bool) (nx e : Int) : runFn (G.env 91 1) G.rts (G.own 91) Tryz.f91 [.ptr 0 0, .int .i64 nx, .int .i64 e] [(0, [.bs B, .int .i64 at_, .bool li, .bool bad])] = some (.tup [], [[.bs B, .int .i64 (cond (bad || !(e == 0)) at_ nx), .bool li, .bool (bad || !(e == 0))]]) := by
  rw [r91]
  cases bad
  · cases (e == 0) <;> rfl
  · rfl

theorem w91 : Walked Tryz.prog G 91 1 sp91 := by
  refine ⟨Tryz.f91, Tryz.func91, by decide +kernel, rfl, fun xs bl r h => ?_⟩
  unfold sp91 at h
  split at h
  · cases h; exact p91 _ _ _ _ _ _
  · cases h

/- kerbsuite/kerbsuiteref5.Text -/
theorem r92 (b : List UInt8) (pos : Int) : runFn (G.env 92 1) G.rts (G.own 92) Tryz.f92 [.bs b, .int .i64 pos] [] = sel (decide (pos < (0 : Int))) (some (AV.tup [AV.str [], AV.int IntKind.i64 (0 : Int), AV.int IntKind.i64 (104 : Int)], [])) (sel (decide (pos > (↑(List.length b) : Int))) (some (AV.tup [AV.str [], AV.int IntKind.i64 (0 : Int), AV.int IntKind.i64 (104 : Int)], [])) (Option.bind (loopM (fun (st : List AV) => onCons st fun (x : AV) (r : List AV) => AV.onBs x fun (b : List UInt8) => onCons r fun (x : AV) (r : List AV) => AV.onInt IntKind.i64 x fun (n : Int) => onCons r fun (x : AV) (r : List AV) => AV.onStr x fun (b_1 : List UInt8) => onCons r fun (x : AV) (r : List AV) => AV.onInt IntKind.i64 x fun (n_1 : Int) => onCons r fun (x : AV) (r : List AV) => AV.onInt IntKind.i64 x fun (n_2 : Int) => onCons r fun (x : AV) (r : List AV) => AV.onInt IntKind.i64 x fun (n_3 : Int) => onNil r (sel (decide (n_3 ≤ (39 : Int))) (sel (decide (IntKind.wrap IntKind.i64 (n + n_3) ≥ (↑(List.length b) : Int))) (some (Sum.inr (Ex.ret, [AV.bs b, AV.int IntKind.i64 n, AV.str [], AV.int IntKind.i64 (0 : Int), AV.int IntKind.i64 (101 : Int), AV.int IntKind.i64 n_3]))) (chk (decide ((0 : Int) ≤ IntKind.wrap IntKind.i64 (n + n_3)) && decide (IntKind.wrap IntKind.i64 (n + n_3) < (↑(List.length b) : Int))) (sel (List.getD b (Int.toNat (IntKind.wrap IntKind.i64 (n + n_3))) (0 : UInt8) == (0 : UInt8)) (chk (decide ((0 : Int) ≤ n) && decide (n ≤ IntKind.wrap IntKind.i64 (n + n_3)) && decide (IntKind.wrap IntKind.i64 (n + n_3) ≤ (↑(List.length b) : Int))) (some (Sum.inr (Ex.ret, [AV.bs b, AV.int IntKind.i64 n, AV.str (List.drop (Int.toNat n) (List.take (Int.toNat (IntKind.wrap IntKind.i64 (n + n_3))) b)), AV.int IntKind.i64 (IntKind.wrap IntKind.i64 (IntKind.wrap IntKind.i64 (n + n_3) + (1 : Int))), AV.int IntKind.i64 (0 : Int), AV.int IntKind.i64 n_3])))) (some (Sum.inl [AV.bs b, AV.int IntKind.i64 n, AV.str b_1, AV.int IntKind.i64 n_1, AV.int IntKind.i64 n_2, AV.int IntKind.i64 (IntKind.wrap IntKind.i64 (n_3 + (1 : Int)))]))))) (some (Sum.inr (Ex.exit (0 : Nat), [AV.bs b, AV.int IntKind.i64 n, AV.str b_1, AV.int IntKind.i64 n_1, AV.int IntKind.i64 n_2, AV.int IntKind.i64 n_3]))))) [AV.bs b, AV.int IntKind.i64 pos, AV.str [], AV.int IntKind.i64 (0 : Int), AV.int IntKind.i64 (0 : Int), AV.int IntKind.i64 (0 : Int)]) fun (r : Ex × List AV) => onCons (Prod.snd r) fun (x : AV) (r_1 : List AV) => AV.onBs x fun (b : List UInt8) => onCons r_1 fun (x : AV) (r_2 : List AV) => AV.onInt IntKind.i64 x fun (n : Int) => onCons r_2 fun (x : AV) (r_3 : List AV) => AV.onStr x fun (b : List UInt8) => onCons r_3 fun (x : AV) (r_4 : List AV) => AV.onInt IntKind.i64 x fun (n : Int) => onCons r_4 fun (x : AV) (r_5 : List AV) => AV.onInt IntKind.i64 x fun (n_1 : Int) => onCons r_5 fun (x : AV) (r_6 : List AV) => AV.onInt IntKind.i64 x fun (n_2 : Int) => onNil r_6 (exK r.1 (some (AV.tup [AV.str b, AV.int IntKind.i64 n, AV.int IntKind.i64 n_1], [])) fun (j : Nat) => sel (Nat.beq j (0 : Nat)) (some (AV.tup [AV.str [], AV.int IntKind.i64 (0 : Int), AV.int IntKind.i64 (105 : Int)], [])) none))) := by kernel_rfl

theorem p92 (b : List UInt8) (pos : Int) (hpre : (decide (b.length ≤ 140737488355328)) = true) : runFn (G.env 92 1) G.rts (G.own 92) Tryz.f92 [.bs b, .int .i64 pos] [] = some (.tup [.str (Kerb.text b pos).val, .int .i64 (Kerb.text b pos).next, .int .i64 (Kerb.text b pos).err], []) := by
  rw [r92]
  have hb := of_decide_eq_true hpre
  unfold Kerb.text
  by_cases h1 : pos < 0
  · rw [sel_pos (by simpa using h1), if_neg (by rw [Kerb.room_zero]; omega)]
  rw [sel_neg (by simpa using h1)]
  by_cases h2 : (b.length : Int) < pos
  · rw [sel_pos (by simpa using h2), if_neg (by rw [Kerb.room_zero]; omega)]
  rw [sel_neg (by simpa using h2), if_pos (Kerb.room_zero.2 (by omega))]
  obtain ⟨R, hR⟩ : ∃ R, R = b.drop pos.toNat := ⟨_, rfl⟩
  have hRl : R.length = b.length - pos.toNat := by rw [hR]; simp
  rw [← hR]
  obtain ⟨T, hT⟩ : ∃ T, T = R.take 40 := ⟨_, rfl⟩
  rw [← hT]
  have hix := Kerb.indexOf_nonneg 0 T
  refine loop_rounds (fun i : Nat => [AV.bs b, AV.int IntKind.i64 pos, AV.str [], AV.int IntKind.i64 0, AV.int IntKind.i64 0, AV.int IntKind.i64 (i : Int)]) (fun i => i ≤ 40 ∧ i ≤ R.length ∧ (0 : UInt8) ∉ R.take i) (fun i => 40 - i)
    (fun r => ∃ (i : Nat) (v : List UInt8) (nx e : Int), r.2 = [AV.bs b, AV.int IntKind.i64 pos, AV.str v, AV.int IntKind.i64 nx, AV.int IntKind.i64 e, AV.int IntKind.i64 (i : Int)] ∧
      ((r.1 = .ret ∧ v = [] ∧ nx = 0 ∧ e = 101 ∧ Kerb.indexOf 0 T < 0 ∧ T.length ≠ 40) ∨ (r.1 = .ret ∧ Kerb.indexOf 0 T = i ∧ v = T.take i ∧ nx = pos + i + 1 ∧ e = 0) ∨ (r.1 = .exit 0 ∧ Kerb.indexOf 0 T < 0 ∧ T.length = 40))) 0 ⟨by omega, by omega, by simp⟩ rfl ?_ ?_
  · rintro i ⟨hi, hir, h0⟩
    simp only [onInt_int, onU8_u8, onBool_bool, onStr_str, onBs_bs, onSl_sl, onAgg_agg, onTup_tup, onOwnB_ownB, onOwnL_ownL, onCons_cons, onNil_nil, onNilB_nil, onConsB_cons, chk_true, chk_bind, sel_bind, some_bind, exK_ret, exK_exit, sel_true, sel_false]
    by_cases hlt : i ≤ 39
    case neg =>
      have e40 : i = 40 := by omega
      subst e40
      rw [sel_neg (by decide)]
      refine ⟨_, rfl, 40, [], 0, 0, rfl, .inr (.inr ⟨rfl, ?_, ?_⟩)⟩
      · rw [← hT] at h0; have := mt hix.1 h0; omega
      · rw [hT]; simp; omega
    rw [sel_pos (by simp; omega), wrap_i64 (n := pos + (i : Int)) (by omega) (by omega)]
    by_cases hend : (b.length : Int) ≤ pos + i
    · rw [sel_pos (by simpa using hend)]
      have hTR : T = R.take i := by rw [hT, List.take_of_length_le (by omega), List.take_of_length_le (by omega)]
      refine ⟨_, rfl, i, [], 0, 101, rfl, .inl ⟨rfl, rfl, rfl, rfl, ?_, ?_⟩⟩
      · rw [← hTR] at h0; have := mt hix.1 h0; omega
      · rw [hTR]; simp; omega
    have hiR : i < R.length := by omega
    have hd := Kerb.drop_all_cons hiR
    have hbi : b.getD (pos + (i : Int)).toNat 0 = R.getD i 0 := by
      rw [show (pos + (i : Int)).toNat = pos.toNat + i by omega, hR]
      simp [List.getD_eq_getElem?_getD]
    rw [sel_neg (by simpa using hend), chk_of (by simp; omega), hbi]
    by_cases hz : R.getD i 0 = 0
    · rw [sel_pos (by rw [hz]; rfl), chk_of (by simp; omega), wrap_i64 (by omega) (by omega)]
      have hTi : T.take i = R.take i := by rw [hT, List.take_take, Nat.min_eq_left (by omega)]
      have hTe : T = R.take i ++ 0 :: (R.drop (i + 1)).take (39 - i) := by
        rw [hT]
        have : R = R.take i ++ (0 :: R.drop (i + 1)) := by rw [← hz, ← hd, List.take_append_drop]
        have hl : (R.take i).length = i := by simp; omega
        calc R.take 40 = (R.take i ++ (0 :: R.drop (i + 1))).take 40 := by rw [← this]
          _ = _ := by rw [List.take_append, hl, List.take_of_length_le (by omega), show 40 - i = (39 - i) + 1 by omega, List.take_succ_cons]
      have hidx : Kerb.indexOf 0 T = i := by
        rw [hTe, Kerb.indexOf_append h0]; simp; omega
      refine ⟨_, rfl, i, _, _, 0, rfl, .inr (.inl ⟨rfl, hidx, ?_, rfl, rfl⟩)⟩
      rw [hTi, hR, show (pos + (i : Int)).toNat = pos.toNat + i by omega, List.drop_take, show pos.toNat + i - pos.toNat = i by omega]
    · rw [sel_neg (beq_eq_false_iff_ne.2 hz), wrap_i64 (by omega) (by omega)]
      refine ⟨_, rfl, i + 1, rfl, ⟨by omega, by omega, ?_⟩, by dsimp only; omega⟩
      rw [Kerb.take_succ_getD hiR]
      simp only [List.mem_append, List.mem_singleton, not_or]
      exact ⟨h0, fun e => hz e.symm⟩
  · rintro ⟨e, l⟩ ⟨i, v, nx, er, rfl, ⟨rfl, rfl, rfl, rfl, g1, g2⟩ | ⟨rfl, g1, rfl, rfl, rfl⟩ | ⟨rfl, g1, g2⟩⟩
    · simp only [onInt_int, onU8_u8, onBool_bool, onStr_str, onBs_bs, onSl_sl, onAgg_agg, onTup_tup, onOwnB_ownB, onOwnL_ownL, onCons_cons, onNil_nil, onNilB_nil, onConsB_cons, chk_true, chk_bind, sel_bind, some_bind, exK_ret, exK_exit, sel_true, sel_false]
      rw [if_neg (by omega), if_neg g2]
    · simp only [onInt_int, onU8_u8, onBool_bool, onStr_str, onBs_bs, onSl_sl, onAgg_agg, onTup_tup, onOwnB_ownB, onOwnL_ownL, onCons_cons, onNil_nil, onNilB_nil, onConsB_cons, chk_true, chk_bind, sel_bind, some_bind, exK_ret, exK_exit, sel_true, sel_false]
      rw [if_pos (by omega), g1, Int.toNat_natCast]
    · simp only [onInt_int, onU8_u8, onBool_bool, onStr_str, onBs_bs, onSl_sl, onAgg_agg, onTup_tup, onOwnB_ownB, onOwnL_ownL, onCons_cons, onNil_nil, onNilB_nil, onConsB_cons, chk_true, chk_bind, sel_bind, some_bind, exK_ret, exK_exit, sel_true, sel_false]
      rw [if_neg (by omega), if_pos g2, sel_pos (Nat.beq_refl _)]

theorem w92 : Walked Tryz.prog G 92 1 sp92 := by
  refine ⟨Tryz.f92, Tryz.func92, by decide +kernel, rfl, fun xs bl r h => ?_⟩
  unfold sp92 at h
  split at h
  · obtain ⟨h1, h2⟩ := chk_inv h; cases h2; exact p92 _ _ h1
  · cases h

/- kerbsuite/kerbsuiteref5.Bytes -/
theorem r93 (b : List UInt8) (pos n : Int) : runFn (G.env 93 1) G.rts (G.own 93) Tryz.f93 [.bs b, .int .i64 pos, .int .i64 n] [] = sel (decide (pos < (0 : Int))) (some (AV.tup [AV.bs [], AV.int IntKind.i64 (0 : Int), AV.int IntKind.i64 (104 : Int)], [])) (sel (decide (pos > (↑(List.length b) : Int))) (some (AV.tup [AV.bs [], AV.int IntKind.i64 (0 : Int), AV.int IntKind.i64 (104 : Int)], [])) (sel (decide (n < (0 : Int))) (some (AV.tup [AV.bs [], AV.int IntKind.i64 (0 : Int), AV.int IntKind.i64 (104 : Int)], [])) (sel (decide (n > IntKind.wrap IntKind.i64 ((↑(List.length b) : Int) - pos))) (some (AV.tup [AV.bs [], AV.int IntKind.i64 (0 : Int), AV.int IntKind.i64 (101 : Int)], [])) (chk (decide ((0 : Int) ≤ pos) && decide (pos ≤ IntKind.wrap IntKind.i64 (pos + n)) && decide (IntKind.wrap IntKind.i64 (pos + n) ≤ (↑(List.length b) : Int))) (chk (room (List.length (List.drop (Int.toNat pos) (List.take (Int.toNat (IntKind.wrap IntKind.i64 (pos + n))) b))) (1 : Nat)) (some (AV.tup [AV.bs (List.drop (Int.toNat pos) (List.take (Int.toNat (IntKind.wrap IntKind.i64 (pos + n))) b)), AV.int IntKind.i64 (IntKind.wrap IntKind.i64 (pos + n)), AV.int IntKind.i64 (0 : Int)], []))))))) := by kernel_rfl

theorem p93 (b : List UInt8) (pos n : Int) (hpre : (decide (b.length ≤ 140737488355328)) = true) : runFn (G.env 93 1) G.rts (G.own 93) Tryz.f93 [.bs b, .int .i64 pos, .int .i64 n] [] = some (.tup [.bs (Kerb.bytes b pos n).val, .int .i64 (Kerb.bytes b pos n).next, .int .i64 (Kerb.bytes b pos n).err], []) := by
  rw [r93]
  have hb := of_decide_eq_true hpre
  unfold Kerb.bytes
  by_cases h1 : pos < 0
  · have e : Kerb.room b pos n = 104 := by unfold Kerb.room; rw [if_pos (by omega)]
    rw [sel_pos (by simpa using h1), e]
    rfl
  rw [sel_neg (by simpa using h1)]
  by_cases h2 : (b.length : Int) < pos
  · have e : Kerb.room b pos n = 104 := by unfold Kerb.room; rw [if_pos (by omega)]
    rw [sel_pos (by simpa using h2), e]
    rfl
  rw [sel_neg (by simpa using h2)]
  by_cases h3 : n < 0
  · have e : Kerb.room b pos n = 104 := by unfold Kerb.room; rw [if_pos (by omega)]
    rw [sel_pos (by simpa using h3), e]
    rfl
  rw [sel_neg (by simpa using h3), wrap_i64 (n := (b.length : Int) - pos) (by omega) (by omega)]
  by_cases h4 : (b.length : Int) - pos < n
  · have e : Kerb.room b pos n = 101 := by unfold Kerb.room; rw [if_neg (by omega), if_pos h4]
    rw [sel_pos (by simpa using h4), e]
    rfl
  have hr : Kerb.room b pos n = 0 := Kerb.room_zero.2 (by omega)
  have e : List.drop (Int.toNat pos) (List.take (Int.toNat (pos + n)) b) = Kerb.cut b pos n := by
    rw [show Int.toNat (pos + n) = pos.toNat + n.toNat by omega, List.drop_take, show pos.toNat + n.toNat - pos.toNat = n.toNat by omega]
    rfl
  have hc := Kerb.cut_length hr
  rw [sel_neg (by simpa using h4), if_pos hr, wrap_i64 (by omega) (by omega), e, chk_of (by simp; omega), chk_of (Kerb.room_ok (by omega))]

theorem w93 : Walked Tryz.prog G 93 1 sp93 := by
  refine ⟨Tryz.f93, Tryz.func93, by decide +kernel, rfl, fun xs bl r h => ?_⟩
  unfold sp93 at h
  split at h
  · obtain ⟨h1, h2⟩ := chk_inv h; cases h2; exact p93 _ _ _ h1
  · cases h

/- kerbsuite/kamessage.operation -/
theorem r99 (n : Int) : runFn (G.env 99 1) G.rts (G.own 99) Tryz.f99 [.int .i64 n] [] = sel (n == (1 : Int)) (some (AV.bool true, [])) (sel (n == (2 : Int)) (some (AV.bool true, [])) (some (AV.bool (n == (3 : Int)), []))) := by kernel_rfl

theorem p99 (n : Int) : runFn (G.env 99 1) G.rts (G.own 99) Tryz.f99 [.int .i64 n] [] = some (.bool (Kerb.kaOp n), []) := by
  rw [r99]
  unfold Kerb.kaOp
  cases (n == 1)
  · cases (n == 2) <;> rfl
  · rfl

theorem w99 : Walked Tryz.prog G 99 1 sp99 := by
  refine ⟨Tryz.f99, Tryz.func99, by decide +kernel, rfl, fun xs bl r h => ?_⟩
  unfold sp99 at h
  split at h
  · cases h; exact p99 _
  · cases h

/- kerbsuite/kamessage.upTo -/
theorem r100 (n m : Int) : runFn (G.env 100 1) G.rts (G.own 100) Tryz.f100 [.int .i64 n, .int .i64 m] [] = sel (decide (n ≥ (0 : Int))) (some (AV.bool (decide (n ≤ m)), [])) (some (AV.bool false, [])) := by kernel_rfl

theorem p100 (n m : Int) : runFn (G.env 100 1) G.rts (G.own 100) Tryz.f100 [.int .i64 n, .int .i64 m] [] = some (.bool (Kerb.within n m), []) := by
  rw [r100]
  by_cases h : 0 ≤ n <;> simp [sel, Kerb.within, h]

theorem w100 : Walked Tryz.prog G 100 1 sp100 := by
  refine ⟨Tryz.f100, Tryz.func100, by decide +kernel, rfl, fun xs bl r h => ?_⟩
  unfold sp100 at h
  split at h
  · cases h; exact p100 _ _
  · cases h

/- kerbsuite/header.isKind -/
theorem r108 (k : Int) : runFn (G.env 108 1) G.rts (G.own 108) Tryz.f108 [.int .i64 k] [] = sel (decide (k ≥ (1 : Int))) (some (AV.bool (decide (k ≤ (10 : Int))), [])) (some (AV.bool false, [])) := by kernel_rfl

theorem p108 (k : Int) : runFn (G.env 108 1) G.rts (G.own 108) Tryz.f108 [.int .i64 k] [] = some (.bool (Kerb.isKind k), []) := by
  rw [r108]
  by_cases h : 1 ≤ k <;> simp [sel, Kerb.isKind, h]

theorem w108 : Walked Tryz.prog G 108 1 sp108 := by
  refine ⟨Tryz.f108, Tryz.func108, by decide +kernel, rfl, fun xs bl r h => ?_⟩
  unfold sp108 at h
  split at h
  · cases h; exact p108 _
  · cases h

/- kerbsuite/kerbsuitedata.Realms -/
theorem r110  : runFn (G.env 110 1) G.rts (G.own 110) Tryz.f110 [] [] = some (AV.sl (1 : Nat) [AV.str [(65 : UInt8), (84 : UInt8), (72 : UInt8)], AV.str [(66 : UInt8), (79 : UInt8), (83 : UInt8)], AV.str [(67 : UInt8), (65 : UInt8), (77 : UInt8)]], []) := by kernel_rfl

theorem p110  : runFn (G.env 110 1) G.rts (G.own 110) Tryz.f110 [] [] = some (.sl 1 [.str [65, 84, 72], .str [66, 79, 83], .str [67, 65, 77]], []) := by
  rw [r110]


theorem w110 : Walked Tryz.prog G 110 1 sp110 := by
  refine ⟨Tryz.f110, Tryz.func110, by decide +kernel, rfl, fun xs bl r h => ?_⟩
  unfold sp110 at h
  split at h
  · cases h; exact p110 
  · cases h

/- kerbsuite/field.room -/
theorem r112 (b : List UInt8) (pos n : Int) : runFn (G.env 112 1) G.rts (G.own 112) Tryz.f112 [.bs b, .int .i64 pos, .int .i64 n] [] = sel (decide (pos < (0 : Int))) (some (AV.int IntKind.i64 (104 : Int), [])) (sel (decide (pos > (↑(List.length b) : Int))) (some (AV.int IntKind.i64 (104 : Int), [])) (sel (decide (n < (0 : Int))) (some (AV.int IntKind.i64 (104 : Int), [])) (sel (decide (n > IntKind.wrap IntKind.i64 ((↑(List.length b) : Int) - pos))) (some (AV.int IntKind.i64 (101 : Int), [])) (some (AV.int IntKind.i64 (0 : Int), []))))) := by kernel_rfl

theorem p112 (b : List UInt8) (pos n : Int) (hpre : (decide (b.length ≤ 4611686018427387904)) = true) : runFn (G.env 112 1) G.rts (G.own 112) Tryz.f112 [.bs b, .int .i64 pos, .int .i64 n] [] = some (.int .i64 (Kerb.room b pos n), []) := by
  rw [r112]
  simp only [decide_eq_true_eq] at hpre
  unfold Kerb.room
  by_cases h1 : pos < 0
  · simp [sel, h1]
  by_cases h2 : (b.length : Int) < pos
  · simp [sel, h1, h2]
  by_cases h3 : n < 0
  · simp [sel, h1, h2, h3]
  rw [sel_neg (by simp; omega), sel_neg (by simp; omega), sel_neg (by simp; omega), wrap_i64 (by omega) (by omega), if_neg (by omega)]
  by_cases h4 : (b.length : Int) - pos < n
  · rw [sel_pos (by simp; omega), if_pos h4]
  · rw [sel_neg (by simp; omega), if_neg h4]

theorem w112 : Walked Tryz.prog G 112 1 sp112 := by
  refine ⟨Tryz.f112, Tryz.func112, by decide +kernel, rfl, fun xs bl r h => ?_⟩
  unfold sp112 at h
  split at h
  · obtain ⟨h1, h2⟩ := chk_inv h; cases h2; exact p112 _ _ _ h1
  · cases h

/- kerbsuite/key.isClass -/
theorem r120 (k : Int) : runFn (G.env 120 1) G.rts (G.own 120) Tryz.f120 [.int .i64 k] [] = sel (k == (1 : Int)) (some (AV.bool true, [])) (some (AV.bool (k == (2 : Int)), [])) := by kernel_rfl

theorem p120 (k : Int) : runFn (G.env 120 1) G.rts (G.own 120) Tryz.f120 [.int .i64 k] [] = some (.bool (Kerb.isClass k), []) := by
  rw [r120]
  unfold Kerb.isClass
  cases (k == (1 : Int)) <;> rfl

theorem w120 : Walked Tryz.prog G 120 1 sp120 := by
  refine ⟨Tryz.f120, Tryz.func120, by decide +kernel, rfl, fun xs bl r h => ?_⟩
  unfold sp120 at h
  split at h
  · cases h; exact p120 _
  · cases h

/- kerbsuite/key.isSerial -/
theorem r121 (k : Int) : runFn (G.env 121 1) G.rts (G.own 121) Tryz.f121 [.int .i64 k] [] = sel (decide (k ≥ (1 : Int))) (some (AV.bool (decide (k ≤ (4294967295 : Int))), [])) (some (AV.bool false, [])) := by kernel_rfl

theorem p121 (k : Int) : runFn (G.env 121 1) G.rts (G.own 121) Tryz.f121 [.int .i64 k] [] = some (.bool (Kerb.isSerial k), []) := by
  rw [r121]
  by_cases h : 1 ≤ k <;> simp [sel, Kerb.isSerial, h]

theorem w121 : Walked Tryz.prog G 121 1 sp121 := by
  refine ⟨Tryz.f121, Tryz.func121, by decide +kernel, rfl, fun xs bl r h => ?_⟩
  unfold sp121 at h
  split at h
  · cases h; exact p121 _
  · cases h

/- (kerbsuite/kerbsuitelaw22.Ask).secret -/
theorem r8 (ao au ak as_ al : UInt8) (at_ ast aen : Int) (aky : UInt8) (atk abx : List UInt8) (aex : UInt8) : runFn (G.env 8 2) G.rts (G.own 8) Tryz.f8 [.agg [.u8 ao, .u8 au, .u8 ak, .u8 as_, .u8 al, .int .u32 at_, .int .u32 ast, .int .u32 aen, .u8 aky, .bs atk, .bs abx, .u8 aex]] [] = chk (decide ((0 : Int) ≤ Int.tmod (IntKind.wrap IntKind.i64 (↑(UInt8.toNat al) : Int)) (4 : Int)) && decide (Int.tmod (IntKind.wrap IntKind.i64 (↑(UInt8.toNat al) : Int)) (4 : Int) < (↑(List.length [AV.str [(103 : UInt8), (84 : UInt8), (71 : UInt8), (83 : UInt8)], AV.str [(103 : UInt8), (84 : UInt8), (75 : UInt8), (84 : UInt8)], AV.str [(67 : UInt8), (80 : UInt8), (87 : UInt8), (108 : UInt8)], AV.str [(67 : UInt8), (80 : UInt8), (87 : UInt8), (100 : UInt8)]]) : Int)) && true) (AV.onStr (List.getD [AV.str [(103 : UInt8), (84 : UInt8), (71 : UInt8), (83 : UInt8)], AV.str [(103 : UInt8), (84 : UInt8), (75 : UInt8), (84 : UInt8)], AV.str [(67 : UInt8), (80 : UInt8), (87 : UInt8), (108 : UInt8)], AV.str [(67 : UInt8), (80 : UInt8), (87 : UInt8), (100 : UInt8)]] (Int.toNat (Int.tmod (IntKind.wrap IntKind.i64 (↑(UInt8.toNat al) : Int)) (4 : Int))) AV.undef) fun (b : List UInt8) => sel (b == [(67 : UInt8), (80 : UInt8), (87 : UInt8), (108 : UInt8)]) (Option.bind (chk (decide ((0 : Int) ≤ IntKind.wrap IntKind.i64 (↑(UInt8.toNat aky) : Int)) && decide (IntKind.wrap IntKind.i64 (↑(UInt8.toNat aky) : Int) ≤ (1000 : Int))) (some (AV.int IntKind.u64 (Kerb.long (IntKind.wrap IntKind.i64 (↑(UInt8.toNat aky) : Int))), []))) fun (r : AV × Blocks) => onNilB (Prod.snd r) (AV.onInt IntKind.u64 (Prod.fst r) fun (n : Int) => sel (!b == [(67 : UInt8), (80 : UInt8), (87 : UInt8), (108 : UInt8)]) (some (AV.agg [AV.str b, AV.int IntKind.i64 (IntKind.wrap IntKind.i64 at_), AV.int IntKind.i64 (IntKind.wrap IntKind.i64 ast), AV.int IntKind.i64 (IntKind.wrap IntKind.i64 aen), AV.int IntKind.u64 n], [])) (sel (UInt8.ofNat (Int.toNat (Int.tmod (↑(UInt8.toNat aex) : Int) (↑(UInt8.toNat (16 : UInt8)) : Int))) == (9 : UInt8)) (some (AV.agg [AV.str b, AV.int IntKind.i64 (IntKind.wrap IntKind.i64 at_), AV.int IntKind.i64 (IntKind.wrap IntKind.i64 ast), AV.int IntKind.i64 (IntKind.wrap IntKind.i64 aen), AV.int IntKind.u64 n], [])) (some (AV.agg [AV.str b, AV.int IntKind.i64 (IntKind.wrap IntKind.i64 at_), AV.int IntKind.i64 (0 : Int), AV.int IntKind.i64 (0 : Int), AV.int IntKind.u64 n], []))))) (sel (UInt8.ofNat (Int.toNat (Int.tmod (↑(UInt8.toNat aex) : Int) (↑(UInt8.toNat (16 : UInt8)) : Int))) == (10 : UInt8)) (Option.bind (chk (decide ((0 : Int) ≤ IntKind.wrap IntKind.i64 (↑(UInt8.toNat aky) : Int)) && decide (IntKind.wrap IntKind.i64 (↑(UInt8.toNat aky) : Int) ≤ (1000 : Int))) (some (AV.int IntKind.u64 (Kerb.long (IntKind.wrap IntKind.i64 (↑(UInt8.toNat aky) : Int))), []))) fun (r : AV × Blocks) => onNilB (Prod.snd r) (AV.onInt IntKind.u64 (Prod.fst r) fun (n : Int) => sel (!b == [(67 : UInt8), (80 : UInt8), (87 : UInt8), (108 : UInt8)]) (some (AV.agg [AV.str b, AV.int IntKind.i64 (IntKind.wrap IntKind.i64 at_), AV.int IntKind.i64 (IntKind.wrap IntKind.i64 ast), AV.int IntKind.i64 (IntKind.wrap IntKind.i64 aen), AV.int IntKind.u64 n], [])) (sel (UInt8.ofNat (Int.toNat (Int.tmod (↑(UInt8.toNat aex) : Int) (↑(UInt8.toNat (16 : UInt8)) : Int))) == (9 : UInt8)) (some (AV.agg [AV.str b, AV.int IntKind.i64 (IntKind.wrap IntKind.i64 at_), AV.int IntKind.i64 (IntKind.wrap IntKind.i64 ast), AV.int IntKind.i64 (IntKind.wrap IntKind.i64 aen), AV.int IntKind.u64 n], [])) (some (AV.agg [AV.str b, AV.int IntKind.i64 (IntKind.wrap IntKind.i64 at_), AV.int IntKind.i64 (0 : Int), AV.int IntKind.i64 (0 : Int), AV.int IntKind.u64 n], []))))) (sel (!b == [(67 : UInt8), (80 : UInt8), (87 : UInt8), (108 : UInt8)]) (some (AV.agg [AV.str b, AV.int IntKind.i64 (IntKind.wrap IntKind.i64 at_), AV.int IntKind.i64 (IntKind.wrap IntKind.i64 ast), AV.int IntKind.i64 (IntKind.wrap IntKind.i64 aen), AV.int IntKind.u64 (0 : Int)], [])) (sel (UInt8.ofNat (Int.toNat (Int.tmod (↑(UInt8.toNat aex) : Int) (↑(UInt8.toNat (16 : UInt8)) : Int))) == (9 : UInt8)) (some (AV.agg [AV.str b, AV.int IntKind.i64 (IntKind.wrap IntKind.i64 at_), AV.int IntKind.i64 (IntKind.wrap IntKind.i64 ast), AV.int IntKind.i64 (IntKind.wrap IntKind.i64 aen), AV.int IntKind.u64 (0 : Int)], [])) (some (AV.agg [AV.str b, AV.int IntKind.i64 (IntKind.wrap IntKind.i64 at_), AV.int IntKind.i64 (0 : Int), AV.int IntKind.i64 (0 : Int), AV.int IntKind.u64 (0 : Int)], [])))))) := by kernel_rfl

theorem p8 (ao au ak as_ al : UInt8) (at_ ast aen : Int) (aky : UInt8) (atk abx : List UInt8) (aex : UInt8) (hpre : (decide (0 ≤ at_) && decide (at_ ≤ 4294967295) && decide (0 ≤ ast) && decide (ast ≤ 4294967295) && decide (0 ≤ aen) && decide (aen ≤ 4294967295)) = true) : runFn (G.env 8 2) G.rts (G.own 8) Tryz.f8 [.agg [.u8 ao, .u8 au, .u8 ak, .u8 as_, .u8 al, .int .u32 at_, .int .u32 ast, .int .u32 aen, .u8 aky, .bs atk, .bs abx, .u8 aex]] [] = some (.agg [.str ((Kerb.Ask.mk ao au ak as_ al at_ ast aen aky atk abx aex).secret).label, .int .i64 ((Kerb.Ask.mk ao au ak as_ al at_ ast aen aky atk abx aex).secret).time, .int .i64 ((Kerb.Ask.mk ao au ak as_ al at_ ast aen aky atk abx aex).secret).start, .int .i64 ((Kerb.Ask.mk ao au ak as_ al at_ ast aen aky atk abx aex).secret).stop, .int .u64 ((Kerb.Ask.mk ao au ak as_ al at_ ast aen aky atk abx aex).secret).new], []) := by
  rw [r8]
  simp only [Bool.and_eq_true, decide_eq_true_eq] at hpre
  have hex := aex.toNat_lt
  have hal := al.toNat_lt
  have hky := Kerb.u8i_bd aky
  have has := Kerb.u8i_bd as_
  simp only [onInt_int, onU8_u8, onBool_bool, onStr_str, onBs_bs, onSl_sl, onAgg_agg, onTup_tup, onOwnB_ownB, onOwnL_ownL, onCons_cons, onNil_nil, onNilB_nil, onConsB_cons, chk_true, chk_bind, sel_bind, some_bind, exK_ret, exK_exit, sel_true, sel_false, Kerb.wrap_u8i]
  have et : Int.tmod (Kerb.u8i al) (4 : Int) = ((al.toNat % 4 : Nat) : Int) := by
    unfold Kerb.u8i; rw [Int.tmod_eq_emod_of_nonneg (by omega)]; omega
  have q : ∀ k : Nat, k < 256 → (UInt8.ofNat (Int.toNat (Int.tmod (aex.toNat : Int) ((16 : UInt8).toNat : Int))) == UInt8.ofNat k) = decide (Kerb.Ask.ex (Kerb.Ask.mk ao au ak as_ al at_ ast aen aky atk abx aex) = k) := fun k hk => by
    have : Int.toNat (Int.tmod (aex.toNat : Int) ((16 : UInt8).toNat : Int)) = aex.toNat % 16 := Kerb.tmod_u8 aex 16 (by omega)
    rw [this, Kerb.u8_beq (by omega) hk]; rfl
  have q8 : (_ == (8 : UInt8)) = _ := q 8 (by omega)
  have q9 : (_ == (9 : UInt8)) = _ := q 9 (by omega)
  have q10 : (_ == (10 : UInt8)) = _ := q 10 (by omega)
  have c1 : (decide ((0 : Int) ≤ Kerb.u8i aky) && decide (Kerb.u8i aky ≤ 1000)) = true := by simp; omega
  have c2 : (decide ((0 : Int) ≤ Kerb.u8i as_) && decide (Kerb.u8i as_ ≤ 4611686018427387904)) = true := by simp; omega
  have w1 : IntKind.wrap IntKind.i64 at_ = at_ := wrap_i64 (by omega) (by omega)
  have w2 : IntKind.wrap IntKind.i64 ast = ast := wrap_i64 (by omega) (by omega)
  have w3 : IntKind.wrap IntKind.i64 aen = aen := wrap_i64 (by omega) (by omega)
  simp only [et, q8, q9, q10, c1, c2, w1, w2, w3, chk_true, Int.toNat_natCast]
  have hm : al.toNat % 4 = 0 ∨ al.toNat % 4 = 1 ∨ al.toNat % 4 = 2 ∨ al.toNat % 4 = 3 := by omega
  generalize hx : Kerb.Ask.ex (Kerb.Ask.mk ao au ak as_ al at_ ast aen aky atk abx aex) = y
  
  unfold Kerb.Ask.secret Kerb.Ask.lab
  simp only [hx]
  have hc : y = 9 ∨ y = 10 ∨ (y ≠ 9 ∧ y ≠ 10) := by omega
  rcases hm with h | h | h | h <;> rcases hc with g | g | ⟨g, g2⟩ <;> simp_all [sel, chk, AV.onStr, Kerb.lGet, Kerb.lTicket, Kerb.lChange, Kerb.lDone]

theorem w8 : Walked Tryz.prog G 8 2 sp8 := by
  refine ⟨Tryz.f8, Tryz.func8, by decide +kernel, rfl, fun xs bl r h => ?_⟩
  unfold sp8 at h
  split at h
  · obtain ⟨h1, h2⟩ := chk_inv h; cases h2; exact p8 _ _ _ _ _ _ _ _ _ _ _ _ h1
  · cases h

/- kerbsuite/kerbsuiteref1.ValidRealm -/
theorem r29 (s : List UInt8) : runFn (G.env 29 2) G.rts (G.own 29) Tryz.f29 [.str s] [] = sel (decide ((↑(List.length s) : Int) > (0 : Int))) (Option.bind (chk (decide (List.length s ≤ (4611686018427387904 : Nat)) && true) (some (AV.bool (Kerb.printable s [(64 : UInt8)] && decide (List.length s ≤ (39 : Nat))), []))) fun (r : AV × Blocks) => onNilB (Prod.snd r) (AV.onBool (Prod.fst r) fun (b : Bool) => some (AV.bool b, []))) (some (AV.bool false, [])) := by kernel_rfl

theorem p29 (s : List UInt8) (hpre : (decide (s.length ≤ 4611686018427387904)) = true) : runFn (G.env 29 2) G.rts (G.own 29) Tryz.f29 [.str s] [] = some (.bool (Kerb.validRealm s), []) := by
  rw [r29]
  simp only [onInt_int, onU8_u8, onBool_bool, onStr_str, onBs_bs, onSl_sl, onAgg_agg, onTup_tup, onOwnB_ownB, onOwnL_ownL, onCons_cons, onNil_nil, onNilB_nil, onConsB_cons, chk_true, chk_bind, sel_bind, some_bind, exK_ret, exK_exit, sel_true, sel_false]
  rw [chk_of (by rw [hpre]; rfl)]
  simp only [Kerb.validRealm]
  cases s with
  | nil => rfl
  | cons x r =>
    rw [sel_pos (by first | (simp; done) | (simp; omega)), Bool.and_comm]
    rfl

theorem w29 : Walked Tryz.prog G 29 2 sp29 := by
  refine ⟨Tryz.f29, Tryz.func29, by decide +kernel, rfl, fun xs bl r h => ?_⟩
  unfold sp29 at h
  split at h
  · obtain ⟨h1, h2⟩ := chk_inv h; cases h2; exact p29 _ h1
  · cases h

/- kerbsuite/kerbsuiteref1.ValidName -/
theorem r30 (s : List UInt8) : runFn (G.env 30 2) G.rts (G.own 30) Tryz.f30 [.str s] [] = sel (decide ((↑(List.length s) : Int) > (0 : Int))) (Option.bind (chk (decide (List.length s ≤ (4611686018427387904 : Nat)) && true) (some (AV.bool (Kerb.printable s [(46 : UInt8), (64 : UInt8)] && decide (List.length s ≤ (39 : Nat))), []))) fun (r : AV × Blocks) => onNilB (Prod.snd r) (AV.onBool (Prod.fst r) fun (b : Bool) => some (AV.bool b, []))) (some (AV.bool false, [])) := by kernel_rfl

theorem p30 (s : List UInt8) (hpre : (decide (s.length ≤ 4611686018427387904)) = true) : runFn (G.env 30 2) G.rts (G.own 30) Tryz.f30 [.str s] [] = some (.bool (Kerb.validName s), []) := by
  rw [r30]
  simp only [onInt_int, onU8_u8, onBool_bool, onStr_str, onBs_bs, onSl_sl, onAgg_agg, onTup_tup, onOwnB_ownB, onOwnL_ownL, onCons_cons, onNil_nil, onNilB_nil, onConsB_cons, chk_true, chk_bind, sel_bind, some_bind, exK_ret, exK_exit, sel_true, sel_false]
  rw [chk_of (by rw [hpre]; rfl)]
  simp only [Kerb.validName]
  cases s with
  | nil => rfl
  | cons x r =>
    rw [sel_pos (by first | (simp; done) | (simp; omega)), Bool.and_comm]
    rfl

theorem w30 : Walked Tryz.prog G 30 2 sp30 := by
  refine ⟨Tryz.f30, Tryz.func30, by decide +kernel, rfl, fun xs bl r h => ?_⟩
  unfold sp30 at h
  split at h
  · obtain ⟨h1, h2⟩ := chk_inv h; cases h2; exact p30 _ h1
  · cases h

/- kerbsuite/kerbsuiteref1.ValidInstance -/
theorem r31 (s : List UInt8) : runFn (G.env 31 2) G.rts (G.own 31) Tryz.f31 [.str s] [] = Option.bind (chk (decide (List.length s ≤ (4611686018427387904 : Nat)) && true) (some (AV.bool (Kerb.printable s [(64 : UInt8)] && decide (List.length s ≤ (39 : Nat))), []))) fun (r : AV × Blocks) => onNilB (Prod.snd r) (AV.onBool (Prod.fst r) fun (b : Bool) => some (AV.bool b, [])) := by kernel_rfl

theorem p31 (s : List UInt8) (hpre : (decide (s.length ≤ 4611686018427387904)) = true) : runFn (G.env 31 2) G.rts (G.own 31) Tryz.f31 [.str s] [] = some (.bool (Kerb.validInst s), []) := by
  rw [r31]
  simp only [onInt_int, onU8_u8, onBool_bool, onStr_str, onBs_bs, onSl_sl, onAgg_agg, onTup_tup, onOwnB_ownB, onOwnL_ownL, onCons_cons, onNil_nil, onNilB_nil, onConsB_cons, chk_true, chk_bind, sel_bind, some_bind, exK_ret, exK_exit, sel_true, sel_false]
  rw [chk_of (by rw [hpre]; rfl), Bool.and_comm]
  rfl

theorem w31 : Walked Tryz.prog G 31 2 sp31 := by
  refine ⟨Tryz.f31, Tryz.func31, by decide +kernel, rfl, fun xs bl r h => ?_⟩
  unfold sp31 at h
  split at h
  · obtain ⟨h1, h2⟩ := chk_inv h; cases h2; exact p31 _ h1
  · cases h

/- kerbsuite/kerbsuiteref5.PutOctet -/
theorem r33 (b : List UInt8) (n : Int) : runFn (G.env 33 2) G.rts (G.own 33) Tryz.f33 [.bs b, .int .i64 n] [] = Option.bind (chk (decide (List.length b ≤ (70368744177664 : Nat))) (some (AV.ownB (b ++ Kerb.putN n (Int.toNat (1 : Int)) false), []))) fun (r : AV × Blocks) => onNilB (Prod.snd r) (AV.onOwnB (Prod.fst r) fun (l : List UInt8) => some (AV.ownB l, [])) := by kernel_rfl

theorem p33 (b : List UInt8) (n : Int) (hpre : (decide (b.length ≤ 70368744177664)) = true) : runFn (G.env 33 2) G.rts (G.own 33) Tryz.f33 [.bs b, .int .i64 n] [] = some (.ownB (b ++ Kerb.putN n 1 false), []) := by
  rw [r33]
  simp only [decide_eq_true_eq] at hpre
  simp only [onInt_int, onU8_u8, onBool_bool, onStr_str, onBs_bs, onSl_sl, onAgg_agg, onTup_tup, onOwnB_ownB, onOwnL_ownL, onCons_cons, onNil_nil, onNilB_nil, onConsB_cons, chk_true, chk_bind, sel_bind, some_bind, exK_ret, exK_exit, sel_true, sel_false]
  rw [chk_of (by simp; omega)]
  rfl

theorem w33 : Walked Tryz.prog G 33 2 sp33 := by
  refine ⟨Tryz.f33, Tryz.func33, by decide +kernel, rfl, fun xs bl r h => ?_⟩
  unfold sp33 at h
  split at h
  · obtain ⟨h1, h2⟩ := chk_inv h; cases h2; exact p33 _ _ h1
  · cases h

/- kerbsuite/kerbsuiteref5.PutPrincipal -/
theorem r35 (b x y z : List UInt8) : runFn (G.env 35 2) G.rts (G.own 35) Tryz.f35 [.bs b, .agg [.str x, .str y, .str z]] [] = Option.bind (chk (decide (List.length b + List.length x ≤ (70368744177664 : Nat))) (some (AV.bs (Kerb.putText b x), []))) fun (r : AV × Blocks) => onNilB (Prod.snd r) (AV.onBs (Prod.fst r) fun (b : List UInt8) => Option.bind (chk (decide (List.length b + List.length y ≤ (70368744177664 : Nat))) (some (AV.bs (Kerb.putText b y), []))) fun (r : AV × Blocks) => onNilB (Prod.snd r) (AV.onBs (Prod.fst r) fun (b : List UInt8) => Option.bind (chk (decide (List.length b + List.length z ≤ (70368744177664 : Nat))) (some (AV.bs (Kerb.putText b z), []))) fun (r : AV × Blocks) => onNilB (Prod.snd r) (AV.onBs (Prod.fst r) fun (b : List UInt8) => some (AV.bs b, [])))) := by kernel_rfl

theorem p35 (b x y z : List UInt8) (hpre : (decide (b.length + x.length + y.length + z.length ≤ 70368744170000)) = true) : runFn (G.env 35 2) G.rts (G.own 35) Tryz.f35 [.bs b, .agg [.str x, .str y, .str z]] [] = some (.bs (Kerb.putPrin b ⟨x, y, z⟩), []) := by
  rw [r35]
  simp only [decide_eq_true_eq] at hpre
  simp only [onInt_int, onU8_u8, onBool_bool, onStr_str, onBs_bs, onSl_sl, onAgg_agg, onTup_tup, onOwnB_ownB, onOwnL_ownL, onCons_cons, onNil_nil, onNilB_nil, onConsB_cons, chk_true, chk_bind, sel_bind, some_bind, exK_ret, exK_exit, sel_true, sel_false]
  rw [chk_of (by simp; omega), chk_of (by simp [Kerb.putText]; omega), chk_of (by simp [Kerb.putText]; omega)]
  rfl

theorem w35 : Walked Tryz.prog G 35 2 sp35 := by
  refine ⟨Tryz.f35, Tryz.func35, by decide +kernel, rfl, fun xs bl r h => ?_⟩
  unfold sp35 at h
  split at h
  · obtain ⟨h1, h2⟩ := chk_inv h; cases h2; exact p35 _ _ _ _ h1
  · cases h

/- kerbsuite/kerbsuiteref5.PutShort -/
theorem r37 (b : List UInt8) (n : Int) (little : Bool) : runFn (G.env 37 2) G.rts (G.own 37) Tryz.f37 [.bs b, .int .i64 n, .bool little] [] = Option.bind (chk (decide (List.length b ≤ (70368744177664 : Nat))) (some (AV.ownB (b ++ Kerb.putN n (Int.toNat (2 : Int)) little), []))) fun (r : AV × Blocks) => onNilB (Prod.snd r) (AV.onOwnB (Prod.fst r) fun (l : List UInt8) => some (AV.ownB l, [])) := by kernel_rfl

theorem p37 (b : List UInt8) (n : Int) (little : Bool) (hpre : (decide (b.length ≤ 70368744177664)) = true) : runFn (G.env 37 2) G.rts (G.own 37) Tryz.f37 [.bs b, .int .i64 n, .bool little] [] = some (.ownB (b ++ Kerb.putN n 2 little), []) := by
  rw [r37]
  simp only [decide_eq_true_eq] at hpre
  simp only [onInt_int, onU8_u8, onBool_bool, onStr_str, onBs_bs, onSl_sl, onAgg_agg, onTup_tup, onOwnB_ownB, onOwnL_ownL, onCons_cons, onNil_nil, onNilB_nil, onConsB_cons, chk_true, chk_bind, sel_bind, some_bind, exK_ret, exK_exit, sel_true, sel_false]
  rw [chk_of (by simp; omega)]
  rfl

theorem w37 : Walked Tryz.prog G 37 2 sp37 := by
  refine ⟨Tryz.f37, Tryz.func37, by decide +kernel, rfl, fun xs bl r h => ?_⟩
  unfold sp37 at h
  split at h
  · obtain ⟨h1, h2⟩ := chk_inv h; cases h2; exact p37 _ _ _ h1
  · cases h

/- kerbsuite/kerbsuiteref3.Valid -/
theorem r39 (k : Int) : runFn (G.env 39 2) G.rts (G.own 39) Tryz.f39 [.int .u64 k] [] = sel (!k == (0 : Int)) (some (AV.bool ((bif Kerb.isClass (IntKind.wrap IntKind.i64 (Int.fdiv k ((2 : Int) ^ min (Int.toNat (56 : Int)) (IntKind.bits IntKind.u64)))) && Kerb.isSerial (IntKind.wrap IntKind.i64 (IntKind.wrap IntKind.u64 (↑(BitVec.toNat (BitVec.ofInt (IntKind.bits IntKind.u64) k &&& BitVec.ofInt (IntKind.bits IntKind.u64) (72057594037927935 : Int))) : Int))) then IntKind.wrap IntKind.i64 (Int.fdiv k ((2 : Int) ^ min (Int.toNat (56 : Int)) (IntKind.bits IntKind.u64))) * (72057594037927936 : Int) + IntKind.wrap IntKind.i64 (IntKind.wrap IntKind.u64 (↑(BitVec.toNat (BitVec.ofInt (IntKind.bits IntKind.u64) k &&& BitVec.ofInt (IntKind.bits IntKind.u64) (72057594037927935 : Int))) : Int)) else (0 : Int)) == k), [])) (some (AV.bool false, [])) := by kernel_rfl

theorem p39 (k : Int) (hpre : (decide (0 ≤ k) && decide (k < 18446744073709551616)) = true) : runFn (G.env 39 2) G.rts (G.own 39) Tryz.f39 [.int .u64 k] [] = some (.bool (Kerb.keyValid k), []) := by
  rw [r39]
  simp only [Bool.and_eq_true, decide_eq_true_eq] at hpre
  obtain ⟨h0, h1⟩ := hpre
  
  rw [Kerb.key_hi h0 h1, Kerb.key_lo h0 h1, Kerb.key_sum]
  by_cases hk : k = 0
  · subst hk; rfl
  rw [sel_pos (by simpa using hk)]
  unfold Kerb.keyValid
  cases Kerb.isClass (Kerb.keyClass k) && Kerb.isSerial (Kerb.keySerial k)
  · have q : ((0 : Int) == k) = false := by simp; omega
    simp only [cond_false, q]
  · simp only [cond_true, BEq.rfl]

theorem w39 : Walked Tryz.prog G 39 2 sp39 := by
  refine ⟨Tryz.f39, Tryz.func39, by decide +kernel, rfl, fun xs bl r h => ?_⟩
  unfold sp39 at h
  split at h
  · obtain ⟨h1, h2⟩ := chk_inv h; cases h2; exact p39 _ h1
  · cases h

/- kerbsuite/kerbsuiteref5.PutNumber -/
theorem r40 (b : List UInt8) (n : Int) (little : Bool) : runFn (G.env 40 2) G.rts (G.own 40) Tryz.f40 [.bs b, .int .i64 n, .bool little] [] = Option.bind (chk (decide (List.length b ≤ (70368744177664 : Nat))) (some (AV.ownB (b ++ Kerb.putN n (Int.toNat (4 : Int)) little), []))) fun (r : AV × Blocks) => onNilB (Prod.snd r) (AV.onOwnB (Prod.fst r) fun (l : List UInt8) => some (AV.ownB l, [])) := by kernel_rfl

theorem p40 (b : List UInt8) (n : Int) (little : Bool) (hpre : (decide (b.length ≤ 70368744177664)) = true) : runFn (G.env 40 2) G.rts (G.own 40) Tryz.f40 [.bs b, .int .i64 n, .bool little] [] = some (.ownB (b ++ Kerb.putN n 4 little), []) := by
  rw [r40]
  simp only [decide_eq_true_eq] at hpre
  simp only [onInt_int, onU8_u8, onBool_bool, onStr_str, onBs_bs, onSl_sl, onAgg_agg, onTup_tup, onOwnB_ownB, onOwnL_ownL, onCons_cons, onNil_nil, onNilB_nil, onConsB_cons, chk_true, chk_bind, sel_bind, some_bind, exK_ret, exK_exit, sel_true, sel_false]
  rw [chk_of (by simp; omega)]
  rfl

theorem w40 : Walked Tryz.prog G 40 2 sp40 := by
  refine ⟨Tryz.f40, Tryz.func40, by decide +kernel, rfl, fun xs bl r h => ?_⟩
  unfold sp40 at h
  split at h
  · obtain ⟨h1, h2⟩ := chk_inv h; cases h2; exact p40 _ _ _ h1
  · cases h

/- kerbsuite/kerbsuiteref8.Is -/
theorem r52 (b : List UInt8) (els : List AV) : runFn (G.env 52 2) G.rts (G.own 52) Tryz.f52 [.bs b, .sl 1 els] [] = sel (!Kerb.Head.err (Kerb.readHead b) == (0 : Int)) (some (AV.tup [AV.bool false, AV.int IntKind.i64 (Kerb.Head.err (Kerb.readHead b))], [])) (Option.bind (loopM (fun (st : List AV) => onCons st fun (x : AV) (r : List AV) => AV.onSl (1 : Nat) x fun (b : List AV) => onCons r fun (x : AV) (r : List AV) => AV.onBool x fun (b_1 : Bool) => onCons r fun (x : AV) (r : List AV) => AV.onInt IntKind.i64 x fun (n : Int) => onCons r fun (x : AV) (r : List AV) => AV.onInt IntKind.i64 x fun (n_1 : Int) => onCons r fun (x : AV) (r : List AV) => AV.onBool x fun (b_2 : Bool) => onCons r fun (x : AV) (r : List AV) => AV.onInt IntKind.i64 x fun (n_2 : Int) => onNil r (sel (decide (n_2 < (↑(List.length b) : Int))) (chk (decide ((0 : Int) ≤ n_2) && decide (n_2 < (↑(List.length b) : Int)) && true) (AV.onInt IntKind.i64 (List.getD b (Int.toNat n_2) AV.undef) fun (n_3 : Int) => sel (n_3 == n_1) (some (Sum.inr (Ex.ret, [AV.sl (1 : Nat) b, AV.bool b_2, AV.int IntKind.i64 (0 : Int), AV.int IntKind.i64 n_1, AV.bool b_2, AV.int IntKind.i64 n_2]))) (some (Sum.inl [AV.sl (1 : Nat) b, AV.bool b_1, AV.int IntKind.i64 n, AV.int IntKind.i64 n_1, AV.bool b_2, AV.int IntKind.i64 (IntKind.wrap IntKind.i64 (n_2 + (1 : Int)))])))) (some (Sum.inr (Ex.exit (0 : Nat), [AV.sl (1 : Nat) b, AV.bool b_1, AV.int IntKind.i64 n, AV.int IntKind.i64 n_1, AV.bool b_2, AV.int IntKind.i64 n_2]))))) [AV.sl (1 : Nat) els, AV.bool false, AV.int IntKind.i64 (0 : Int), AV.int IntKind.i64 (Kerb.Head.kind (Kerb.readHead b)), AV.bool (Kerb.Head.little (Kerb.readHead b)), AV.int IntKind.i64 (0 : Int)]) fun (r : Ex × List AV) => onCons (Prod.snd r) fun (x : AV) (r_1 : List AV) => AV.onSl (1 : Nat) x fun (b : List AV) => onCons r_1 fun (x : AV) (r_2 : List AV) => AV.onBool x fun (b : Bool) => onCons r_2 fun (x : AV) (r_3 : List AV) => AV.onInt IntKind.i64 x fun (n : Int) => onCons r_3 fun (x : AV) (r_4 : List AV) => AV.onInt IntKind.i64 x fun (n_1 : Int) => onCons r_4 fun (x : AV) (r_5 : List AV) => AV.onBool x fun (b_1 : Bool) => onCons r_5 fun (x : AV) (r_6 : List AV) => AV.onInt IntKind.i64 x fun (n_2 : Int) => onNil r_6 (exK r.1 (some (AV.tup [AV.bool b, AV.int IntKind.i64 n], [])) fun (j : Nat) => sel (Nat.beq j (0 : Nat)) (some (AV.tup [AV.bool false, AV.int IntKind.i64 (40 : Int)], [])) none)) := by kernel_rfl

theorem p52 (b : List UInt8) (els : List AV) (hpre : (allInts els && decide (els.length ≤ 1000)) = true) : runFn (G.env 52 2) G.rts (G.own 52) Tryz.f52 [.bs b, .sl 1 els] [] = some (.tup [.bool (Kerb.headIs b (intsIn els)).1, .int .i64 (Kerb.headIs b (intsIn els)).2], []) := by
  rw [r52]
  simp only [Bool.and_eq_true, decide_eq_true_eq] at hpre
  obtain ⟨ha, hl⟩ := hpre
  have hil := Kerb.ints_len ha
  unfold Kerb.headIs
  by_cases he : (Kerb.readHead b).err = 0
  case neg =>
    rw [sel_pos (by simpa using he), if_pos he]
  rw [sel_neg (by simp [he]), if_neg (by simpa using he)]
  generalize (Kerb.readHead b).kind = k
  generalize (Kerb.readHead b).little = lt
  refine loop_rounds (fun i : Nat => [AV.sl 1 els, AV.bool false, AV.int IntKind.i64 0, AV.int IntKind.i64 k, AV.bool lt, AV.int IntKind.i64 (i : Int)]) (fun i => i ≤ els.length ∧ (k ∈ intsIn els ↔ k ∈ (intsIn els).drop i)) (fun i => els.length - i)
    (fun r => ∃ (i : Nat) (x : Bool), r.2 = [AV.sl 1 els, AV.bool x, AV.int IntKind.i64 0, AV.int IntKind.i64 k, AV.bool lt, AV.int IntKind.i64 (i : Int)] ∧ ((r.1 = .ret ∧ x = lt ∧ k ∈ intsIn els) ∨ (r.1 = .exit 0 ∧ k ∉ intsIn els))) 0 ⟨Nat.zero_le _, by simp⟩ rfl ?_ ?_
  · rintro i ⟨hi, hm⟩
    simp only [onInt_int, onU8_u8, onBool_bool, onStr_str, onBs_bs, onSl_sl, onAgg_agg, onTup_tup, onOwnB_ownB, onOwnL_ownL, onCons_cons, onNil_nil, onNilB_nil, onConsB_cons, chk_true, chk_bind, sel_bind, some_bind, exK_ret, exK_exit, sel_true, sel_false]
    by_cases hlt : i < els.length
    · obtain ⟨n, h1, h2⟩ := Kerb.ints_get ha hlt
      rw [sel_pos (by simp; omega), chk_of (by simp; omega), Int.toNat_natCast, h1, onInt_int]
      rw [h2, List.mem_cons] at hm
      by_cases h3 : n = k
      · rw [sel_pos (by simpa using h3)]
        exact ⟨_, rfl, i, lt, rfl, .inl ⟨rfl, rfl, hm.2 (.inl h3.symm)⟩⟩
      · rw [sel_neg (by simpa using h3), wrap_i64 (by omega) (by omega)]
        exact ⟨_, rfl, i + 1, rfl, ⟨by omega, hm.trans ⟨fun h => h.resolve_left fun e => h3 e.symm, .inr⟩⟩, by dsimp only; omega⟩
    · rw [sel_neg (by simp; omega)]
      refine ⟨_, rfl, i, false, rfl, .inr ⟨rfl, ?_⟩⟩
      rw [hm, List.drop_eq_nil_of_le (by omega)]; simp
  · rintro ⟨e, l⟩ ⟨i, x, rfl, ⟨rfl, rfl, h⟩ | ⟨rfl, h⟩⟩
    · simp only [onInt_int, onU8_u8, onBool_bool, onStr_str, onBs_bs, onSl_sl, onAgg_agg, onTup_tup, onOwnB_ownB, onOwnL_ownL, onCons_cons, onNil_nil, onNilB_nil, onConsB_cons, chk_true, chk_bind, sel_bind, some_bind, exK_ret, exK_exit, sel_true, sel_false]
      rw [if_pos (by simpa using h)]
    · simp only [onInt_int, onU8_u8, onBool_bool, onStr_str, onBs_bs, onSl_sl, onAgg_agg, onTup_tup, onOwnB_ownB, onOwnL_ownL, onCons_cons, onNil_nil, onNilB_nil, onConsB_cons, chk_true, chk_bind, sel_bind, some_bind, exK_ret, exK_exit, sel_true, sel_false]
      rw [if_neg (by simpa using h), sel_pos (Nat.beq_refl _)]

theorem w52 : Walked Tryz.prog G 52 2 sp52 := by
  refine ⟨Tryz.f52, Tryz.func52, by decide +kernel, rfl, fun xs bl r h => ?_⟩
  unfold sp52 at h
  split at h
  · obtain ⟨h1, h2⟩ := chk_inv h; cases h2; exact p52 _ _ h1
  · cases h

/- (*kerbsuite/kerbsuiteref5.Reader).Text -/
theorem r55 (B : List UInt8) (at_ : Int) (li bad : Bool) : runFn (G.env 55 2) G.rts (G.own 55) Tryz.f55 [.ptr 0 0] [(0, [.bs B, .int .i64 at_, .bool li, .bool bad])] = Option.bind (chk (decide (List.length B ≤ (140737488355328 : Nat))) (some (AV.tup [AV.str (Kerb.GotB.val (Kerb.text B at_)), AV.int IntKind.i64 (Kerb.GotB.next (Kerb.text B at_)), AV.int IntKind.i64 (Kerb.GotB.err (Kerb.text B at_))], []))) fun (r : AV × Blocks) => onNilB (Prod.snd r) (AV.onTup (Prod.fst r) fun (vs : List AV) => onCons vs fun (x : AV) (r : List AV) => AV.onStr x fun (b : List UInt8) => onCons r fun (x : AV) (r : List AV) => AV.onInt IntKind.i64 x fun (n : Int) => onCons r fun (x : AV) (r : List AV) => AV.onInt IntKind.i64 x fun (n_1 : Int) => onNil r (some (AV.str b, [[AV.bs B, AV.int IntKind.i64 (bif bad || !n_1 == (0 : Int) then at_ else n), AV.bool li, AV.bool (bad || !n_1 == (0 : Int))]]))) := by kernel_rfl

theorem p55 (B : List UInt8) (at_ : Int) (li bad : Bool) (hpre : (decide (B.length ≤ 140737488355328)) = true) : runFn (G.env 55 2) G.rts (G.own 55) Tryz.f55 [.ptr 0 0] [(0, [.bs B, .int .i64 at_, .bool li, .bool bad])] = some (.str (Kerb.text B at_).val, [[.bs B, .int .i64 (cond (bad || !((Kerb.text B at_).err == 0)) at_ (Kerb.text B at_).next), .bool li, .bool (bad || !((Kerb.text B at_).err == 0))]]) := by
  rw [r55]
  simp only [onInt_int, onU8_u8, onBool_bool, onStr_str, onBs_bs, onSl_sl, onAgg_agg, onTup_tup, onOwnB_ownB, onOwnL_ownL, onCons_cons, onNil_nil, onNilB_nil, onConsB_cons, chk_true, chk_bind, sel_bind, some_bind, exK_ret, exK_exit, sel_true, sel_false]
  rw [chk_of hpre]

theorem w55 : Walked Tryz.prog G 55 2 sp55 := by
  refine ⟨Tryz.f55, Tryz.func55, by decide +kernel, rfl, fun xs bl r h => ?_⟩
  unfold sp55 at h
  split at h
  · obtain ⟨h1, h2⟩ := chk_inv h; cases h2; exact p55 _ _ _ _ h1
  · cases h

/- (*kerbsuite/kerbsuiteref5.Reader).Bytes -/
theorem r56 (B : List UInt8) (at_ : Int) (li bad : Bool) (n : Int) : runFn (G.env 56 2) G.rts (G.own 56) Tryz.f56 [.ptr 0 0, .int .i64 n] [(0, [.bs B, .int .i64 at_, .bool li, .bool bad])] = Option.bind (chk (decide (List.length B ≤ (140737488355328 : Nat))) (some (AV.tup [AV.bs (Kerb.GotB.val (Kerb.bytes B at_ n)), AV.int IntKind.i64 (Kerb.GotB.next (Kerb.bytes B at_ n)), AV.int IntKind.i64 (Kerb.GotB.err (Kerb.bytes B at_ n))], []))) fun (r : AV × Blocks) => onNilB (Prod.snd r) (AV.onTup (Prod.fst r) fun (vs : List AV) => onCons vs fun (x : AV) (r : List AV) => AV.onBs x fun (b : List UInt8) => onCons r fun (x : AV) (r : List AV) => AV.onInt IntKind.i64 x fun (n : Int) => onCons r fun (x : AV) (r : List AV) => AV.onInt IntKind.i64 x fun (n_1 : Int) => onNil r (some (AV.bs b, [[AV.bs B, AV.int IntKind.i64 (bif bad || !n_1 == (0 : Int) then at_ else n), AV.bool li, AV.bool (bad || !n_1 == (0 : Int))]]))) := by kernel_rfl

theorem p56 (B : List UInt8) (at_ : Int) (li bad : Bool) (n : Int) (hpre : (decide (B.length ≤ 140737488355328)) = true) : runFn (G.env 56 2) G.rts (G.own 56) Tryz.f56 [.ptr 0 0, .int .i64 n] [(0, [.bs B, .int .i64 at_, .bool li, .bool bad])] = some (.bs (Kerb.bytes B at_ n).val, [[.bs B, .int .i64 (cond (bad || !((Kerb.bytes B at_ n).err == 0)) at_ (Kerb.bytes B at_ n).next), .bool li, .bool (bad || !((Kerb.bytes B at_ n).err == 0))]]) := by
  rw [r56]
  simp only [onInt_int, onU8_u8, onBool_bool, onStr_str, onBs_bs, onSl_sl, onAgg_agg, onTup_tup, onOwnB_ownB, onOwnL_ownL, onCons_cons, onNil_nil, onNilB_nil, onConsB_cons, chk_true, chk_bind, sel_bind, some_bind, exK_ret, exK_exit, sel_true, sel_false]
  rw [chk_of hpre]

theorem w56 : Walked Tryz.prog G 56 2 sp56 := by
  refine ⟨Tryz.f56, Tryz.func56, by decide +kernel, rfl, fun xs bl r h => ?_⟩
  unfold sp56 at h
  split at h
  · obtain ⟨h1, h2⟩ := chk_inv h; cases h2; exact p56 _ _ _ _ _ h1
  · cases h

/- kerbsuite/header.Put -/
theorem r74 (k : Int) (little : Bool) : runFn (G.env 74 2) G.rts (G.own 74) Tryz.f74 [.int .i64 k, .bool little] [] = sel (!Kerb.isKind k) (some (AV.bs [], [])) (sel little (some (AV.bs [(4 : UInt8), UInt8.ofNat (Int.toNat (IntKind.wrap IntKind.u8 (IntKind.wrap IntKind.i64 (IntKind.wrap IntKind.i64 ((2 : Int) * k) + (1 : Int)))))], [])) (some (AV.bs [(4 : UInt8), UInt8.ofNat (Int.toNat (IntKind.wrap IntKind.u8 (IntKind.wrap IntKind.i64 ((2 : Int) * k))))], []))) := by kernel_rfl

theorem p74 (k : Int) (little : Bool) : runFn (G.env 74 2) G.rts (G.own 74) Tryz.f74 [.int .i64 k, .bool little] [] = some (.bs (Kerb.header k little), []) := by
  rw [r74]
  by_cases h : 1 ≤ k ∧ k ≤ 10
  · have hk : k = 1 ∨ k = 2 ∨ k = 3 ∨ k = 4 ∨ k = 5 ∨ k = 6 ∨ k = 7 ∨ k = 8 ∨ k = 9 ∨ k = 10 := by omega
    rcases hk with rfl | rfl | rfl | rfl | rfl | rfl | rfl | rfl | rfl | rfl <;> cases little <;> rfl
  · have hk : Kerb.isKind k = false := by simp [Kerb.isKind]; omega
    by_cases h1 : k < 1
    · simp [sel, Kerb.header, hk, h1]
    · have h2 : 10 < k := by omega
      simp [sel, Kerb.header, hk, h1, h2]

theorem w74 : Walked Tryz.prog G 74 2 sp74 := by
  refine ⟨Tryz.f74, Tryz.func74, by decide +kernel, rfl, fun xs bl r h => ?_⟩
  unfold sp74 at h
  split at h
  · cases h; exact p74 _ _
  · cases h

/- kerbsuite/kerbsuitedata.Realm -/
theorem r77 (n : Int) : runFn (G.env 77 2) G.rts (G.own 77) Tryz.f77 [.int .i64 n] [] = chk (decide ((0 : Int) ≤ Int.tmod n (3 : Int)) && decide (Int.tmod n (3 : Int) < (↑(List.length [AV.str [(65 : UInt8), (84 : UInt8), (72 : UInt8)], AV.str [(66 : UInt8), (79 : UInt8), (83 : UInt8)], AV.str [(67 : UInt8), (65 : UInt8), (77 : UInt8)]]) : Int)) && true) (AV.onStr (List.getD [AV.str [(65 : UInt8), (84 : UInt8), (72 : UInt8)], AV.str [(66 : UInt8), (79 : UInt8), (83 : UInt8)], AV.str [(67 : UInt8), (65 : UInt8), (77 : UInt8)]] (Int.toNat (Int.tmod n (3 : Int))) AV.undef) fun (b : List UInt8) => some (AV.str b, [])) := by kernel_rfl

theorem p77 (n : Int) (hpre : (decide (0 ≤ n)) = true) : runFn (G.env 77 2) G.rts (G.own 77) Tryz.f77 [.int .i64 n] [] = some (.str (Kerb.realm n), []) := by
  rw [r77]
  have hn : 0 ≤ n := by first | exact of_decide_eq_true hpre | (simp only [Bool.and_eq_true, decide_eq_true_eq] at hpre; exact hpre.1)
  have ht : Int.tmod n 3 = n % 3 := Int.tmod_eq_emod_of_nonneg hn
  have hcase : n % 3 = 0 ∨ n % 3 = 1 ∨ n % 3 = 2 := by omega
  
  rcases hcase with e | e | e <;> simp [ht, e, chk, AV.onStr, Kerb.realm]

theorem w77 : Walked Tryz.prog G 77 2 sp77 := by
  refine ⟨Tryz.f77, Tryz.func77, by decide +kernel, rfl, fun xs bl r h => ?_⟩
  unfold sp77 at h
  split at h
  · obtain ⟨h1, h2⟩ := chk_inv h; cases h2; exact p77 _ h1
  · cases h

/- kerbsuite/header.Read -/
theorem r81 (b : List UInt8) : runFn (G.env 81 2) G.rts (G.own 81) Tryz.f81 [.bs b] [] = sel (decide ((↑(List.length b) : Int) < (2 : Int))) (some (AV.tup [AV.int IntKind.i64 (0 : Int), AV.bool false, AV.int IntKind.i64 (101 : Int)], [])) (chk (decide ((0 : Int) < (↑(List.length b) : Int))) (sel (!List.getD b (Int.toNat (0 : Int)) (0 : UInt8) == (4 : UInt8)) (some (AV.tup [AV.int IntKind.i64 (0 : Int), AV.bool false, AV.int IntKind.i64 (39 : Int)], [])) (chk (decide ((1 : Int) < (↑(List.length b) : Int))) (sel (!Kerb.isKind (IntKind.wrap IntKind.i64 (Int.tdiv (IntKind.wrap IntKind.i64 (↑(UInt8.toNat (List.getD b (Int.toNat (1 : Int)) (0 : UInt8))) : Int)) (2 : Int)))) (some (AV.tup [AV.int IntKind.i64 (0 : Int), AV.bool false, AV.int IntKind.i64 (40 : Int)], [])) (chk (decide ((1 : Int) < (↑(List.length b) : Int))) (some (AV.tup [AV.int IntKind.i64 (IntKind.wrap IntKind.i64 (Int.tdiv (IntKind.wrap IntKind.i64 (↑(UInt8.toNat (List.getD b (Int.toNat (1 : Int)) (0 : UInt8))) : Int)) (2 : Int))), AV.bool (UInt8.ofNat (Int.toNat (Int.tmod (↑(UInt8.toNat (List.getD b (Int.toNat (1 : Int)) (0 : UInt8))) : Int) (↑(UInt8.toNat (2 : UInt8)) : Int))) == (1 : UInt8)), AV.int IntKind.i64 (0 : Int)], []))))))) := by kernel_rfl

theorem p81 (b : List UInt8) : runFn (G.env 81 2) G.rts (G.own 81) Tryz.f81 [.bs b] [] = some (.tup [.int .i64 (Kerb.readHead b).kind, .bool (Kerb.readHead b).little, .int .i64 (Kerb.readHead b).err], []) := by
  rw [r81]
  unfold Kerb.readHead
  by_cases h1 : b.length < 2
  · rw [sel_pos (by simp; omega)]
    simp [h1]
  rw [sel_neg (by simp; omega), chk_of (by simp; omega), if_neg h1]
  by_cases h2 : b.getD 0 0 = 4
  · have hb := (b.getD 1 0).toNat_lt
    have e : IntKind.wrap IntKind.i64 (Int.tdiv (IntKind.wrap IntKind.i64 ((b.getD (Int.toNat 1) 0).toNat : Int)) 2) = (((b.getD 1 0).toNat / 2 : Nat) : Int) := by
      rw [show Int.toNat 1 = 1 from rfl, wrap_i64 (n := ((b.getD 1 0).toNat : Int)) (by omega) (by omega), Int.tdiv_eq_ediv_of_nonneg (by omega), wrap_i64 (by omega) (by omega)]; omega
    have e2 : (UInt8.ofNat (Int.toNat (Int.tmod ((b.getD (Int.toNat 1) 0).toNat : Int) ((2 : UInt8).toNat : Int))) == 1) = decide ((b.getD 1 0).toNat % 2 = 1) := by
      rw [show Int.toNat 1 = 1 from rfl, Int.tmod_eq_emod_of_nonneg (by omega)]
      have e3 : Int.toNat (((b.getD 1 0).toNat : Int) % ((2 : UInt8).toNat : Int)) = (b.getD 1 0).toNat % 2 := by
        show Int.toNat (((b.getD 1 0).toNat : Int) % 2) = _
        omega
      rw [e3]
      rcases Nat.mod_two_eq_zero_or_one (b.getD 1 0).toNat with h | h <;> rw [h] <;> rfl
    rw [sel_neg (by simp [h2] at *; exact h2), chk_of (by simp; omega), if_neg (by simpa using h2), e, e2]
    cases hk : Kerb.isKind (((b.getD 1 0).toNat / 2 : Nat) : Int)
    · rfl
    · rw [Bool.not_true, sel_false, chk_of (by simp; omega)]
      rfl
  · rw [sel_pos (by simpa using h2), if_pos (by simpa using h2)]

theorem w81 : Walked Tryz.prog G 81 2 sp81 := by
  refine ⟨Tryz.f81, Tryz.func81, by decide +kernel, rfl, fun xs bl r h => ?_⟩
  unfold sp81 at h
  split at h
  · cases h; exact p81 _
  · cases h

/- kerbsuite/field.Bytes -/
theorem r86 (b : List UInt8) (pos n : Int) : runFn (G.env 86 2) G.rts (G.own 86) Tryz.f86 [.bs b, .int .i64 pos, .int .i64 n] [] = Option.bind (chk (decide (List.length b ≤ (4611686018427387904 : Nat))) (some (AV.int IntKind.i64 (Kerb.room b pos n), []))) fun (r : AV × Blocks) => onNilB (Prod.snd r) (AV.onInt IntKind.i64 (Prod.fst r) fun (n_1 : Int) => sel (!n_1 == (0 : Int)) (some (AV.tup [AV.bs [], AV.int IntKind.i64 (0 : Int), AV.int IntKind.i64 n_1], [])) (chk (decide ((0 : Int) ≤ pos) && decide (pos ≤ IntKind.wrap IntKind.i64 (pos + n)) && decide (IntKind.wrap IntKind.i64 (pos + n) ≤ (↑(List.length b) : Int))) (Option.bind (chk (decide (List.length (List.drop (Int.toNat pos) (List.take (Int.toNat (IntKind.wrap IntKind.i64 (pos + n))) b)) ≤ (140737488355328 : Nat))) (some (AV.bs (List.drop (Int.toNat pos) (List.take (Int.toNat (IntKind.wrap IntKind.i64 (pos + n))) b)), []))) fun (r : AV × Blocks) => onNilB (Prod.snd r) (AV.onBs (Prod.fst r) fun (b : List UInt8) => some (AV.tup [AV.bs b, AV.int IntKind.i64 (IntKind.wrap IntKind.i64 (pos + n)), AV.int IntKind.i64 (0 : Int)], []))))) := by kernel_rfl

theorem p86 (b : List UInt8) (pos n : Int) (hpre : (decide (b.length ≤ 140737488355328)) = true) : runFn (G.env 86 2) G.rts (G.own 86) Tryz.f86 [.bs b, .int .i64 pos, .int .i64 n] [] = some (.tup [.bs (Kerb.bytes b pos n).val, .int .i64 (Kerb.bytes b pos n).next, .int .i64 (Kerb.bytes b pos n).err], []) := by
  rw [r86]
  have hb := of_decide_eq_true hpre
  simp only [onInt_int, onU8_u8, onBool_bool, onStr_str, onBs_bs, onSl_sl, onAgg_agg, onTup_tup, onOwnB_ownB, onOwnL_ownL, onCons_cons, onNil_nil, onNilB_nil, onConsB_cons, chk_true, chk_bind, sel_bind, some_bind, exK_ret, exK_exit, sel_true, sel_false]
  rw [chk_of (by simp; omega)]
  unfold Kerb.bytes
  by_cases hr : Kerb.room b pos n = 0
  · obtain ⟨q1, q2, q3, q4⟩ := Kerb.room_zero.1 hr
    have e : List.drop (Int.toNat pos) (List.take (Int.toNat (pos + n)) b) = Kerb.cut b pos n := by
      rw [show Int.toNat (pos + n) = pos.toNat + n.toNat by omega, List.drop_take, show pos.toNat + n.toNat - pos.toNat = n.toNat by omega]
      rfl
    have hc := Kerb.cut_length hr
    rw [sel_neg (by simp [hr]), if_pos hr, wrap_i64 (by omega) (by omega), e, chk_of (by simp; omega), chk_of (by simp; omega)]
  · rw [sel_pos (by simpa using hr), if_neg hr]

theorem w86 : Walked Tryz.prog G 86 2 sp86 := by
  refine ⟨Tryz.f86, Tryz.func86, by decide +kernel, rfl, fun xs bl r h => ?_⟩
  unfold sp86 at h
  split at h
  · obtain ⟨h1, h2⟩ := chk_inv h; cases h2; exact p86 _ _ _ h1
  · cases h

/- slices.Concat[[]byte,byte] -/
theorem r104 (els : List AV) : runFn (G.env 104 2) G.rts (G.own 104) Tryz.f104 [.sl 1 els] [] = Option.bind (loopM (fun (st : List AV) => onCons st fun (x : AV) (r : List AV) => AV.onSl (1 : Nat) x fun (b : List AV) => onCons r fun (x : AV) (r : List AV) => AV.onInt IntKind.i64 x fun (n : Int) => onCons r fun (x : AV) (r : List AV) => AV.onSl (1 : Nat) x fun (b_1 : List AV) => onCons r fun (x : AV) (r : List AV) => AV.onInt IntKind.i64 x fun (n_1 : Int) => onCons r fun (x : AV) (r : List AV) => AV.onInt IntKind.i64 x fun (n_2 : Int) => onNil r (sel (decide (n_2 < n_1)) (chk (decide ((0 : Int) ≤ n_2) && decide (n_2 < (↑(List.length b_1) : Int)) && true) (AV.onBs (List.getD b_1 (Int.toNat n_2) AV.undef) fun (b_2 : List UInt8) => sel (decide (IntKind.wrap IntKind.i64 (n + (↑(List.length b_2) : Int)) < (0 : Int))) none (some (Sum.inl [AV.sl (1 : Nat) b, AV.int IntKind.i64 (IntKind.wrap IntKind.i64 (n + (↑(List.length b_2) : Int))), AV.sl (1 : Nat) b_1, AV.int IntKind.i64 n_1, AV.int IntKind.i64 (IntKind.wrap IntKind.i64 (n_2 + (1 : Int)))])))) (some (Sum.inr (Ex.exit (0 : Nat), [AV.sl (1 : Nat) b, AV.int IntKind.i64 n, AV.sl (1 : Nat) b_1, AV.int IntKind.i64 n_1, AV.int IntKind.i64 n_2]))))) [AV.sl (1 : Nat) els, AV.int IntKind.i64 (0 : Int), AV.sl (1 : Nat) els, AV.int IntKind.i64 (↑(List.length els) : Int), AV.int IntKind.i64 (0 : Int)]) fun (r : Ex × List AV) => onCons (Prod.snd r) fun (x : AV) (r_1 : List AV) => AV.onSl (1 : Nat) x fun (b : List AV) => onCons r_1 fun (x : AV) (r_2 : List AV) => AV.onInt IntKind.i64 x fun (n : Int) => onCons r_2 fun (x : AV) (r_3 : List AV) => AV.onSl (1 : Nat) x fun (b_1 : List AV) => onCons r_3 fun (x : AV) (r_4 : List AV) => AV.onInt IntKind.i64 x fun (n_1 : Int) => onCons r_4 fun (x : AV) (r_5 : List AV) => AV.onInt IntKind.i64 x fun (n_2 : Int) => onNil r_5 (exK r.1 none fun (j : Nat) => sel (Nat.beq j (0 : Nat)) (Option.bind (chk (decide ((0 : Int) ≤ n) && decide (n ≤ (140737488355328 : Int))) (some (AV.ownB [], []))) fun (r : AV × Blocks) => onNilB (Prod.snd r) (AV.onOwnB (Prod.fst r) fun (l : List UInt8) => Option.bind (loopM (fun (st : List AV) => onCons st fun (x : AV) (r : List AV) => AV.onOwnB x fun (b : List UInt8) => onCons r fun (x : AV) (r : List AV) => AV.onSl (1 : Nat) x fun (b_2 : List AV) => onCons r fun (x : AV) (r : List AV) => AV.onInt IntKind.i64 x fun (n : Int) => onCons r fun (x : AV) (r : List AV) => AV.onInt IntKind.i64 x fun (n_3 : Int) => onNil r (sel (decide (n_3 < n)) (chk (decide ((0 : Int) ≤ n_3) && decide (n_3 < (↑(List.length b_2) : Int)) && true) (AV.onBs (List.getD b_2 (Int.toNat n_3) AV.undef) fun (b_3 : List UInt8) => chk (room (List.length b + List.length b_3) (1 : Nat)) (some (Sum.inl [AV.ownB (b ++ b_3), AV.sl (1 : Nat) b_2, AV.int IntKind.i64 n, AV.int IntKind.i64 (IntKind.wrap IntKind.i64 (n_3 + (1 : Int)))])))) (some (Sum.inr (Ex.exit (2 : Nat), [AV.ownB b, AV.sl (1 : Nat) b_2, AV.int IntKind.i64 n, AV.int IntKind.i64 n_3]))))) [AV.ownB l, AV.sl (1 : Nat) b, AV.int IntKind.i64 (↑(List.length b) : Int), AV.int IntKind.i64 (0 : Int)]) fun (r : Ex × List AV) => onCons (Prod.snd r) fun (x : AV) (r_6 : List AV) => AV.onOwnB x fun (b : List UInt8) => onCons r_6 fun (x : AV) (r_7 : List AV) => AV.onSl (1 : Nat) x fun (b_2 : List AV) => onCons r_7 fun (x : AV) (r_8 : List AV) => AV.onInt IntKind.i64 x fun (n : Int) => onCons r_8 fun (x : AV) (r_9 : List AV) => AV.onInt IntKind.i64 x fun (n : Int) => onNil r_9 (exK r.1 none fun (j : Nat) => sel (Nat.beq j (2 : Nat)) (some (AV.ownB b, [])) none))) none) := by kernel_rfl

theorem p104 (els : List AV) (hpre : (allB els && decide ((catB els).length ≤ 140737488355328) && decide (els.length ≤ 1000)) = true) : runFn (G.env 104 2) G.rts (G.own 104) Tryz.f104 [.sl 1 els] [] = some (.ownB (catB els), []) := by
  rw [r104]
  simp only [Bool.and_eq_true, decide_eq_true_eq] at hpre
  obtain ⟨⟨ha, hl⟩, hbig⟩ := hpre
  refine loop_rounds (fun i : Nat => [AV.sl 1 els, AV.int IntKind.i64 ((catB (els.take i)).length : Int), AV.sl 1 els, AV.int IntKind.i64 (els.length : Int), AV.int IntKind.i64 (i : Int)]) (fun i => i ≤ els.length) (fun i => els.length - i)
    (fun r => r = (Ex.exit 0, [AV.sl 1 els, AV.int IntKind.i64 ((catB els).length : Int), AV.sl 1 els, AV.int IntKind.i64 (els.length : Int), AV.int IntKind.i64 (els.length : Int)])) 0 (Nat.zero_le _) rfl ?_ ?_
  · intro i hi
    simp only [onInt_int, onU8_u8, onBool_bool, onStr_str, onBs_bs, onSl_sl, onAgg_agg, onTup_tup, onOwnB_ownB, onOwnL_ownL, onCons_cons, onNil_nil, onNilB_nil, onConsB_cons, chk_true, chk_bind, sel_bind, some_bind, exK_ret, exK_exit, sel_true, sel_false]
    by_cases hlt : i < els.length
    · obtain ⟨l, h1, h2, h3⟩ := Kerb.cat_step ha hlt
      rw [sel_pos (by simp; omega), chk_of (by simp; omega), Int.toNat_natCast, h1, onBs_bs, wrap_i64 (n := ((catB (els.take i)).length : Int) + (l.length : Int)) (by omega) (by omega), sel_neg (by simp; omega), wrap_i64 (by omega) (by omega)]
      refine ⟨_, rfl, i + 1, ?_, by omega, by dsimp only; omega⟩
      dsimp only
      rw [h2, List.length_append, Int.natCast_add]
      rfl
    · rw [sel_neg (by simp; omega)]
      refine ⟨_, rfl, ?_⟩
      show _ = _
      rw [List.take_of_length_le (by omega), show i = els.length from by omega]
  rintro r rfl
  simp only [onInt_int, onU8_u8, onBool_bool, onStr_str, onBs_bs, onSl_sl, onAgg_agg, onTup_tup, onOwnB_ownB, onOwnL_ownL, onCons_cons, onNil_nil, onNilB_nil, onConsB_cons, chk_true, chk_bind, sel_bind, some_bind, exK_ret, exK_exit, sel_true, sel_false]
  rw [sel_pos (Nat.beq_refl _), chk_of (by simp; omega)]
  refine loop_rounds (fun i : Nat => [AV.ownB (catB (els.take i)), AV.sl 1 els, AV.int IntKind.i64 (els.length : Int), AV.int IntKind.i64 (i : Int)]) (fun i => i ≤ els.length) (fun i => els.length - i)
    (fun r => r = (Ex.exit 2, [AV.ownB (catB els), AV.sl 1 els, AV.int IntKind.i64 (els.length : Int), AV.int IntKind.i64 (els.length : Int)])) 0 (Nat.zero_le _) rfl ?_ ?_
  · intro i hi
    simp only [onInt_int, onU8_u8, onBool_bool, onStr_str, onBs_bs, onSl_sl, onAgg_agg, onTup_tup, onOwnB_ownB, onOwnL_ownL, onCons_cons, onNil_nil, onNilB_nil, onConsB_cons, chk_true, chk_bind, sel_bind, some_bind, exK_ret, exK_exit, sel_true, sel_false]
    by_cases hlt : i < els.length
    · obtain ⟨l, h1, h2, h3⟩ := Kerb.cat_step ha hlt
      rw [sel_pos (by simp; omega), chk_of (by simp; omega), Int.toNat_natCast, h1, onBs_bs, chk_of (Kerb.room_ok (by omega)), wrap_i64 (by omega) (by omega)]
      refine ⟨_, rfl, i + 1, ?_, by omega, by dsimp only; omega⟩
      dsimp only
      rw [h2]
      rfl
    · rw [sel_neg (by simp; omega)]
      refine ⟨_, rfl, ?_⟩
      show _ = _
      rw [List.take_of_length_le (by omega), show i = els.length from by omega]
  rintro r rfl
  simp only [onInt_int, onU8_u8, onBool_bool, onStr_str, onBs_bs, onSl_sl, onAgg_agg, onTup_tup, onOwnB_ownB, onOwnL_ownL, onCons_cons, onNil_nil, onNilB_nil, onConsB_cons, chk_true, chk_bind, sel_bind, some_bind, exK_ret, exK_exit, sel_true, sel_false]
  rw [sel_pos (Nat.beq_refl _)]

theorem w104 : Walked Tryz.prog G 104 2 sp104 := by
  refine ⟨Tryz.f104, Tryz.func104, by decide +kernel, rfl, fun xs bl r h => ?_⟩
  unfold sp104 at h
  split at h
  · obtain ⟨h1, h2⟩ := chk_inv h; cases h2; exact p104 _ h1
  · cases h

/- kerbsuite/field.get -/
theorem r111 (b : List UInt8) (pos k : Int) (little : Bool) : runFn (G.env 111 2) G.rts (G.own 111) Tryz.f111 [.bs b, .int .i64 pos, .int .i64 k, .bool little] [] = Option.bind (chk (decide (List.length b ≤ (4611686018427387904 : Nat))) (some (AV.int IntKind.i64 (Kerb.room b pos k), []))) fun (r : AV × Blocks) => onNilB (Prod.snd r) (AV.onInt IntKind.i64 (Prod.fst r) fun (n : Int) => sel (!n == (0 : Int)) (some (AV.tup [AV.int IntKind.i64 (0 : Int), AV.int IntKind.i64 (0 : Int), AV.int IntKind.i64 n], [])) (Option.bind (loopM (fun (st : List AV) => onCons st fun (x : AV) (r : List AV) => AV.onBs x fun (b : List UInt8) => onCons r fun (x : AV) (r : List AV) => AV.onInt IntKind.i64 x fun (n : Int) => onCons r fun (x : AV) (r : List AV) => AV.onInt IntKind.i64 x fun (n_1 : Int) => onCons r fun (x : AV) (r : List AV) => AV.onBool x fun (b_1 : Bool) => onCons r fun (x : AV) (r : List AV) => AV.onInt IntKind.i64 x fun (n_2 : Int) => onCons r fun (x : AV) (r : List AV) => AV.onInt IntKind.i64 x fun (n_3 : Int) => onCons r fun (x : AV) (r : List AV) => AV.onInt IntKind.i64 x fun (n_4 : Int) => onNil r (sel (decide (n_4 < n_3)) (sel b_1 (chk (decide ((0 : Int) ≤ IntKind.wrap IntKind.i64 (n + IntKind.wrap IntKind.i64 (IntKind.wrap IntKind.i64 (n_1 - (1 : Int)) - n_4))) && decide (IntKind.wrap IntKind.i64 (n + IntKind.wrap IntKind.i64 (IntKind.wrap IntKind.i64 (n_1 - (1 : Int)) - n_4)) < (↑(List.length b) : Int))) (some (Sum.inl [AV.bs b, AV.int IntKind.i64 n, AV.int IntKind.i64 n_1, AV.bool b_1, AV.int IntKind.i64 (IntKind.wrap IntKind.i64 (↑(BitVec.toNat (BitVec.ofInt (IntKind.bits IntKind.i64) (IntKind.wrap IntKind.i64 (n_2 * (2 : Int) ^ min (Int.toNat (8 : Int)) (IntKind.bits IntKind.i64))) ||| BitVec.ofInt (IntKind.bits IntKind.i64) (IntKind.wrap IntKind.i64 (↑(UInt8.toNat (List.getD b (Int.toNat (IntKind.wrap IntKind.i64 (n + IntKind.wrap IntKind.i64 (IntKind.wrap IntKind.i64 (n_1 - (1 : Int)) - n_4)))) (0 : UInt8))) : Int)))) : Int)), AV.int IntKind.i64 n_3, AV.int IntKind.i64 (IntKind.wrap IntKind.i64 (n_4 + (1 : Int)))]))) (chk (decide ((0 : Int) ≤ IntKind.wrap IntKind.i64 (n + n_4)) && decide (IntKind.wrap IntKind.i64 (n + n_4) < (↑(List.length b) : Int))) (some (Sum.inl [AV.bs b, AV.int IntKind.i64 n, AV.int IntKind.i64 n_1, AV.bool b_1, AV.int IntKind.i64 (IntKind.wrap IntKind.i64 (↑(BitVec.toNat (BitVec.ofInt (IntKind.bits IntKind.i64) (IntKind.wrap IntKind.i64 (n_2 * (2 : Int) ^ min (Int.toNat (8 : Int)) (IntKind.bits IntKind.i64))) ||| BitVec.ofInt (IntKind.bits IntKind.i64) (IntKind.wrap IntKind.i64 (↑(UInt8.toNat (List.getD b (Int.toNat (IntKind.wrap IntKind.i64 (n + n_4))) (0 : UInt8))) : Int)))) : Int)), AV.int IntKind.i64 n_3, AV.int IntKind.i64 (IntKind.wrap IntKind.i64 (n_4 + (1 : Int)))])))) (some (Sum.inr (Ex.exit (0 : Nat), [AV.bs b, AV.int IntKind.i64 n, AV.int IntKind.i64 n_1, AV.bool b_1, AV.int IntKind.i64 n_2, AV.int IntKind.i64 n_3, AV.int IntKind.i64 n_4]))))) [AV.bs b, AV.int IntKind.i64 pos, AV.int IntKind.i64 k, AV.bool little, AV.int IntKind.i64 (0 : Int), AV.int IntKind.i64 k, AV.int IntKind.i64 (0 : Int)]) fun (r : Ex × List AV) => onCons (Prod.snd r) fun (x : AV) (r_1 : List AV) => AV.onBs x fun (b : List UInt8) => onCons r_1 fun (x : AV) (r_2 : List AV) => AV.onInt IntKind.i64 x fun (n : Int) => onCons r_2 fun (x : AV) (r_3 : List AV) => AV.onInt IntKind.i64 x fun (n_1 : Int) => onCons r_3 fun (x : AV) (r_4 : List AV) => AV.onBool x fun (b : Bool) => onCons r_4 fun (x : AV) (r_5 : List AV) => AV.onInt IntKind.i64 x fun (n_2 : Int) => onCons r_5 fun (x : AV) (r_6 : List AV) => AV.onInt IntKind.i64 x fun (n_3 : Int) => onCons r_6 fun (x : AV) (r_7 : List AV) => AV.onInt IntKind.i64 x fun (n_4 : Int) => onNil r_7 (exK r.1 none fun (j : Nat) => sel (Nat.beq j (0 : Nat)) (some (AV.tup [AV.int IntKind.i64 n_2, AV.int IntKind.i64 (IntKind.wrap IntKind.i64 (n + n_1)), AV.int IntKind.i64 (0 : Int)], [])) none))) := by kernel_rfl

theorem p111 (b : List UInt8) (pos k : Int) (little : Bool) (hpre : (decide (b.length ≤ 4611686018427387904) && decide (0 ≤ k) && decide (k ≤ 4)) = true) : runFn (G.env 111 2) G.rts (G.own 111) Tryz.f111 [.bs b, .int .i64 pos, .int .i64 k, .bool little] [] = some (.tup [.int .i64 (Kerb.get b pos k little).val, .int .i64 (Kerb.get b pos k little).next, .int .i64 (Kerb.get b pos k little).err], []) := by
  rw [r111]
  simp only [Bool.and_eq_true, decide_eq_true_eq] at hpre
  obtain ⟨⟨hb, hk0⟩, hk4⟩ := hpre
  simp only [onInt_int, onU8_u8, onBool_bool, onStr_str, onBs_bs, onSl_sl, onAgg_agg, onTup_tup, onOwnB_ownB, onOwnL_ownL, onCons_cons, onNil_nil, onNilB_nil, onConsB_cons, chk_true, chk_bind, sel_bind, some_bind, exK_ret, exK_exit, sel_true, sel_false]
  rw [chk_of (by simpa using hb)]
  unfold Kerb.get
  by_cases hr : Kerb.room b pos k = 0
  · rw [sel_neg (by simp [hr]), if_pos hr]
    obtain ⟨q1, q2, q3, q4⟩ := Kerb.room_zero.1 hr
    have hcl := Kerb.cut_length hr
    obtain ⟨L, hL⟩ : ∃ L, L = cond little (Kerb.cut b pos k).reverse (Kerb.cut b pos k) := ⟨_, rfl⟩
    have hLl : L.length = k.toNat := by rw [hL]; cases little <;> simp [hcl]
    rw [← hL]
    refine loop_rounds (fun i : Nat => [AV.bs b, AV.int IntKind.i64 pos, AV.int IntKind.i64 k, AV.bool little, AV.int IntKind.i64 (Kerb.valB (L.take i)), AV.int IntKind.i64 k, AV.int IntKind.i64 (i : Int)]) (fun i => i ≤ k.toNat) (fun i => k.toNat - i)
      (fun r => r = (Ex.exit 0, [AV.bs b, AV.int IntKind.i64 pos, AV.int IntKind.i64 k, AV.bool little, AV.int IntKind.i64 (Kerb.valB L), AV.int IntKind.i64 k, AV.int IntKind.i64 k])) 0 (Nat.zero_le _) rfl ?_ ?_
    · intro i hi
      simp only [onInt_int, onU8_u8, onBool_bool, onStr_str, onBs_bs, onSl_sl, onAgg_agg, onTup_tup, onOwnB_ownB, onOwnL_ownL, onCons_cons, onNil_nil, onNilB_nil, onConsB_cons, chk_true, chk_bind, sel_bind, some_bind, exK_ret, exK_exit, sel_true, sel_false]
      by_cases hlt : i < k.toNat
      · rw [sel_pos (by simp; omega)]
        have hv := Kerb.valB_bd (l := L.take i) (by simp; omega)
        have hs := Kerb.valB_take (l := L) (i := i) (by omega)
        have hgd : L.getD i 0 = b.getD (cond little (pos.toNat + (k.toNat - 1 - i)) (pos.toNat + i)) 0 := by
          rw [hL]
          cases little
          · exact Kerb.cut_getD hlt
          · show (Kerb.cut b pos k).reverse.getD i 0 = _
            rw [Kerb.getD_reverse (by omega), hcl, Kerb.cut_getD (by omega)]; rfl
        cases little
        · rw [sel_neg rfl, wrap_i64 (n := pos + (i : Int)) (by omega) (by omega), chk_of (by simp; omega), show (pos + (i : Int)).toNat = pos.toNat + i from by omega]
          rw [Kerb.shl8_or _ hv.1 (by omega), wrap_i64 (n := (i : Int) + 1) (by omega) (by omega)]
          refine ⟨_, rfl, i + 1, ?_, by omega, by dsimp only; omega⟩
          dsimp only
          rw [hs, hgd]; rfl
        · rw [sel_pos rfl, wrap_i64 (n := k - 1) (by omega) (by omega), wrap_i64 (n := k - 1 - (i : Int)) (by omega) (by omega), wrap_i64 (n := pos + (k - 1 - (i : Int))) (by omega) (by omega), chk_of (by simp; omega), show (pos + (k - 1 - (i : Int))).toNat = pos.toNat + (k.toNat - 1 - i) from by omega]
          rw [Kerb.shl8_or _ hv.1 (by omega), wrap_i64 (n := (i : Int) + 1) (by omega) (by omega)]
          refine ⟨_, rfl, i + 1, ?_, by omega, by dsimp only; omega⟩
          dsimp only
          rw [hs, hgd]; rfl
      · rw [sel_neg (by simp; omega)]
        refine ⟨_, rfl, ?_⟩
        show _ = _
        rw [List.take_of_length_le (by omega), show (i : Int) = k from by omega]
    · rintro r rfl
      simp only [onInt_int, onU8_u8, onBool_bool, onStr_str, onBs_bs, onSl_sl, onAgg_agg, onTup_tup, onOwnB_ownB, onOwnL_ownL, onCons_cons, onNil_nil, onNilB_nil, onConsB_cons, chk_true, chk_bind, sel_bind, some_bind, exK_ret, exK_exit, sel_true, sel_false]
      rw [sel_pos (Nat.beq_refl _), wrap_i64 (by omega) (by omega)]
  · rw [sel_pos (by simpa using hr), if_neg hr]

theorem w111 : Walked Tryz.prog G 111 2 sp111 := by
  refine ⟨Tryz.f111, Tryz.func111, by decide +kernel, rfl, fun xs bl r h => ?_⟩
  unfold sp111 at h
  split at h
  · obtain ⟨h1, h2⟩ := chk_inv h; cases h2; exact p111 _ _ _ _ h1
  · cases h

/- bytes.IndexByte -/
theorem r113 (s : List UInt8) (c : UInt8) : runFn (G.env 113 2) G.rts (G.own 113) Tryz.f113 [.bs s, .u8 c] [] = some (AV.int IntKind.i64 (Kerb.indexOf c s), []) := by kernel_rfl

theorem p113 (s : List UInt8) (c : UInt8) : runFn (G.env 113 2) G.rts (G.own 113) Tryz.f113 [.bs s, .u8 c] [] = some (.int .i64 (Kerb.indexOf c s), []) := by
  rw [r113]


theorem w113 : Walked Tryz.prog G 113 2 sp113 := by
  refine ⟨Tryz.f113, Tryz.func113, by decide +kernel, rfl, fun xs bl r h => ?_⟩
  unfold sp113 at h
  split at h
  · cases h; exact p113 _ _
  · cases h

/- kerbsuite/kerbsuiteref5.get -/
theorem r115 (b : List UInt8) (pos k : Int) (little : Bool) : runFn (G.env 115 2) G.rts (G.own 115) Tryz.f115 [.bs b, .int .i64 pos, .int .i64 k, .bool little] [] = Option.bind (chk (decide (List.length b ≤ (140737488355328 : Nat))) (some (AV.tup [AV.bs (Kerb.GotB.val (Kerb.bytes b pos k)), AV.int IntKind.i64 (Kerb.GotB.next (Kerb.bytes b pos k)), AV.int IntKind.i64 (Kerb.GotB.err (Kerb.bytes b pos k))], []))) fun (r : AV × Blocks) => onNilB (Prod.snd r) (AV.onTup (Prod.fst r) fun (vs : List AV) => onCons vs fun (x : AV) (r : List AV) => AV.onBs x fun (b : List UInt8) => onCons r fun (x : AV) (r : List AV) => AV.onInt IntKind.i64 x fun (n : Int) => onCons r fun (x : AV) (r : List AV) => AV.onInt IntKind.i64 x fun (n_1 : Int) => onNil r (sel (!n_1 == (0 : Int)) (some (AV.tup [AV.int IntKind.i64 (0 : Int), AV.int IntKind.i64 (0 : Int), AV.int IntKind.i64 n_1], [])) (Option.bind (loopM (fun (st : List AV) => onCons st fun (x : AV) (r : List AV) => AV.onInt IntKind.i64 x fun (n : Int) => onCons r fun (x : AV) (r : List AV) => AV.onBool x fun (b : Bool) => onCons r fun (x : AV) (r : List AV) => AV.onBs x fun (b_1 : List UInt8) => onCons r fun (x : AV) (r : List AV) => AV.onInt IntKind.i64 x fun (n_2 : Int) => onCons r fun (x : AV) (r : List AV) => AV.onInt IntKind.i64 x fun (n_3 : Int) => onCons r fun (x : AV) (r : List AV) => AV.onInt IntKind.i64 x fun (n_4 : Int) => onNil r (sel (decide (n_4 < n)) (sel b (chk (decide ((0 : Int) ≤ IntKind.wrap IntKind.i64 (IntKind.wrap IntKind.i64 (n - (1 : Int)) - n_4)) && decide (IntKind.wrap IntKind.i64 (IntKind.wrap IntKind.i64 (n - (1 : Int)) - n_4) < (↑(List.length b_1) : Int))) (some (Sum.inl [AV.int IntKind.i64 n, AV.bool b, AV.bs b_1, AV.int IntKind.i64 n_2, AV.int IntKind.i64 (IntKind.wrap IntKind.i64 (↑(BitVec.toNat (BitVec.ofInt (IntKind.bits IntKind.i64) (IntKind.wrap IntKind.i64 (n_3 * (2 : Int) ^ min (Int.toNat (8 : Int)) (IntKind.bits IntKind.i64))) ||| BitVec.ofInt (IntKind.bits IntKind.i64) (IntKind.wrap IntKind.i64 (↑(UInt8.toNat (List.getD b_1 (Int.toNat (IntKind.wrap IntKind.i64 (IntKind.wrap IntKind.i64 (n - (1 : Int)) - n_4))) (0 : UInt8))) : Int)))) : Int)), AV.int IntKind.i64 (IntKind.wrap IntKind.i64 (n_4 + (1 : Int)))]))) (chk (decide ((0 : Int) ≤ n_4) && decide (n_4 < (↑(List.length b_1) : Int))) (some (Sum.inl [AV.int IntKind.i64 n, AV.bool b, AV.bs b_1, AV.int IntKind.i64 n_2, AV.int IntKind.i64 (IntKind.wrap IntKind.i64 (↑(BitVec.toNat (BitVec.ofInt (IntKind.bits IntKind.i64) (IntKind.wrap IntKind.i64 (n_3 * (2 : Int) ^ min (Int.toNat (8 : Int)) (IntKind.bits IntKind.i64))) ||| BitVec.ofInt (IntKind.bits IntKind.i64) (IntKind.wrap IntKind.i64 (↑(UInt8.toNat (List.getD b_1 (Int.toNat n_4) (0 : UInt8))) : Int)))) : Int)), AV.int IntKind.i64 (IntKind.wrap IntKind.i64 (n_4 + (1 : Int)))])))) (some (Sum.inr (Ex.exit (0 : Nat), [AV.int IntKind.i64 n, AV.bool b, AV.bs b_1, AV.int IntKind.i64 n_2, AV.int IntKind.i64 n_3, AV.int IntKind.i64 n_4]))))) [AV.int IntKind.i64 k, AV.bool little, AV.bs b, AV.int IntKind.i64 n, AV.int IntKind.i64 (0 : Int), AV.int IntKind.i64 (0 : Int)]) fun (r : Ex × List AV) => onCons (Prod.snd r) fun (x : AV) (r_1 : List AV) => AV.onInt IntKind.i64 x fun (n : Int) => onCons r_1 fun (x : AV) (r_2 : List AV) => AV.onBool x fun (b : Bool) => onCons r_2 fun (x : AV) (r_3 : List AV) => AV.onBs x fun (b : List UInt8) => onCons r_3 fun (x : AV) (r_4 : List AV) => AV.onInt IntKind.i64 x fun (n : Int) => onCons r_4 fun (x : AV) (r_5 : List AV) => AV.onInt IntKind.i64 x fun (n_2 : Int) => onCons r_5 fun (x : AV) (r_6 : List AV) => AV.onInt IntKind.i64 x fun (n_3 : Int) => onNil r_6 (exK r.1 none fun (j : Nat) => sel (Nat.beq j (0 : Nat)) (some (AV.tup [AV.int IntKind.i64 n_2, AV.int IntKind.i64 n, AV.int IntKind.i64 (0 : Int)], [])) none)))) := by kernel_rfl

theorem p115 (b : List UInt8) (pos k : Int) (little : Bool) (hpre : (decide (b.length ≤ 140737488355328) && decide (0 ≤ k) && decide (k ≤ 4)) = true) : runFn (G.env 115 2) G.rts (G.own 115) Tryz.f115 [.bs b, .int .i64 pos, .int .i64 k, .bool little] [] = some (.tup [.int .i64 (Kerb.get b pos k little).val, .int .i64 (Kerb.get b pos k little).next, .int .i64 (Kerb.get b pos k little).err], []) := by
  rw [r115]
  simp only [Bool.and_eq_true, decide_eq_true_eq] at hpre
  obtain ⟨⟨hb, hk0⟩, hk4⟩ := hpre
  simp only [onInt_int, onU8_u8, onBool_bool, onStr_str, onBs_bs, onSl_sl, onAgg_agg, onTup_tup, onOwnB_ownB, onOwnL_ownL, onCons_cons, onNil_nil, onNilB_nil, onConsB_cons, chk_true, chk_bind, sel_bind, some_bind, exK_ret, exK_exit, sel_true, sel_false]
  rw [chk_of (by simpa using hb)]
  unfold Kerb.get Kerb.bytes
  by_cases hr : Kerb.room b pos k = 0
  case neg =>
    rw [if_neg hr, if_neg hr, sel_pos (by simpa using hr)]
  rw [if_pos hr, if_pos hr, sel_neg (by simp)]
  obtain ⟨q1, q2, q3, q4⟩ := Kerb.room_zero.1 hr
  have hcl := Kerb.cut_length hr
  obtain ⟨C, hC⟩ : ∃ C, C = Kerb.cut b pos k := ⟨_, rfl⟩
  rw [← hC] at hcl ⊢
  obtain ⟨L, hL⟩ : ∃ L, L = cond little C.reverse C := ⟨_, rfl⟩
  have hLl : L.length = k.toNat := by rw [hL]; cases little <;> simp [hcl]
  rw [← hL]
  refine loop_rounds (fun i : Nat => [AV.int IntKind.i64 k, AV.bool little, AV.bs C, AV.int IntKind.i64 (pos + k), AV.int IntKind.i64 (Kerb.valB (L.take i)), AV.int IntKind.i64 (i : Int)]) (fun i => i ≤ k.toNat) (fun i => k.toNat - i)
    (fun r => r = (Ex.exit 0, [AV.int IntKind.i64 k, AV.bool little, AV.bs C, AV.int IntKind.i64 (pos + k), AV.int IntKind.i64 (Kerb.valB L), AV.int IntKind.i64 k])) 0 (Nat.zero_le _) rfl ?_ ?_
  · intro i hi
    simp only [onInt_int, onU8_u8, onBool_bool, onStr_str, onBs_bs, onSl_sl, onAgg_agg, onTup_tup, onOwnB_ownB, onOwnL_ownL, onCons_cons, onNil_nil, onNilB_nil, onConsB_cons, chk_true, chk_bind, sel_bind, some_bind, exK_ret, exK_exit, sel_true, sel_false]
    by_cases hlt : i < k.toNat
    · rw [sel_pos (by simp; omega)]
      have hv := Kerb.valB_bd (l := L.take i) (by simp; omega)
      have hs := Kerb.valB_take (l := L) (i := i) (by omega)
      have hgd : L.getD i 0 = C.getD (cond little (k.toNat - 1 - i) i) 0 := by
        rw [hL]
        cases little
        · rfl
        · show C.reverse.getD i 0 = _
          rw [Kerb.getD_reverse (by omega), hcl]; rfl
      cases little
      · rw [sel_neg rfl, chk_of (by simp; omega), Int.toNat_natCast]
        rw [Kerb.shl8_or _ hv.1 (by omega), wrap_i64 (n := (i : Int) + 1) (by omega) (by omega)]
        refine ⟨_, rfl, i + 1, ?_, by omega, by dsimp only; omega⟩
        dsimp only
        rw [hs, hgd]; rfl
      · rw [sel_pos rfl, wrap_i64 (n := k - 1) (by omega) (by omega), wrap_i64 (n := k - 1 - (i : Int)) (by omega) (by omega), chk_of (by simp; omega), show (k - 1 - (i : Int)).toNat = k.toNat - 1 - i from by omega]
        rw [Kerb.shl8_or _ hv.1 (by omega), wrap_i64 (n := (i : Int) + 1) (by omega) (by omega)]
        refine ⟨_, rfl, i + 1, ?_, by omega, by dsimp only; omega⟩
        dsimp only
        rw [hs, hgd]; rfl
    · rw [sel_neg (by simp; omega)]
      refine ⟨_, rfl, ?_⟩
      show _ = _
      rw [List.take_of_length_le (by omega), show (i : Int) = k from by omega]
  · rintro r rfl
    simp only [onInt_int, onU8_u8, onBool_bool, onStr_str, onBs_bs, onSl_sl, onAgg_agg, onTup_tup, onOwnB_ownB, onOwnL_ownL, onCons_cons, onNil_nil, onNilB_nil, onConsB_cons, chk_true, chk_bind, sel_bind, some_bind, exK_ret, exK_exit, sel_true, sel_false]
    rw [sel_pos (Nat.beq_refl _)]

theorem w115 : Walked Tryz.prog G 115 2 sp115 := by
  refine ⟨Tryz.f115, Tryz.func115, by decide +kernel, rfl, fun xs bl r h => ?_⟩
  unfold sp115 at h
  split at h
  · obtain ⟨h1, h2⟩ := chk_inv h; cases h2; exact p115 _ _ _ _ h1
  · cases h

/- kerbsuite/key.split -/
theorem r116 (k : Int) : runFn (G.env 116 2) G.rts (G.own 116) Tryz.f116 [.int .u64 k] [] = sel (!Kerb.isClass (IntKind.wrap IntKind.i64 (Int.fdiv k ((2 : Int) ^ min (Int.toNat (56 : Int)) (IntKind.bits IntKind.u64))))) (some (AV.tup [AV.int IntKind.i64 (0 : Int), AV.int IntKind.i64 (0 : Int), AV.bool false], [])) (sel (!Kerb.isSerial (IntKind.wrap IntKind.i64 (IntKind.wrap IntKind.u64 (↑(BitVec.toNat (BitVec.ofInt (IntKind.bits IntKind.u64) k &&& BitVec.ofInt (IntKind.bits IntKind.u64) (72057594037927935 : Int))) : Int)))) (some (AV.tup [AV.int IntKind.i64 (0 : Int), AV.int IntKind.i64 (0 : Int), AV.bool false], [])) (some (AV.tup [AV.int IntKind.i64 (IntKind.wrap IntKind.i64 (Int.fdiv k ((2 : Int) ^ min (Int.toNat (56 : Int)) (IntKind.bits IntKind.u64)))), AV.int IntKind.i64 (IntKind.wrap IntKind.i64 (IntKind.wrap IntKind.u64 (↑(BitVec.toNat (BitVec.ofInt (IntKind.bits IntKind.u64) k &&& BitVec.ofInt (IntKind.bits IntKind.u64) (72057594037927935 : Int))) : Int))), AV.bool true], []))) := by kernel_rfl

theorem p116 (k : Int) (hpre : (decide (0 ≤ k) && decide (k < 18446744073709551616)) = true) : runFn (G.env 116 2) G.rts (G.own 116) Tryz.f116 [.int .u64 k] [] = some (.tup [.int .i64 (cond (Kerb.keyValid k) (Kerb.keyClass k) 0), .int .i64 (cond (Kerb.keyValid k) (Kerb.keySerial k) 0), .bool (Kerb.keyValid k)], []) := by
  rw [r116]
  simp only [Bool.and_eq_true, decide_eq_true_eq] at hpre
  obtain ⟨h0, h1⟩ := hpre
  
  rw [Kerb.key_hi h0 h1, Kerb.key_lo h0 h1]
  unfold Kerb.keyValid
  cases Kerb.isClass (Kerb.keyClass k)
  · rfl
  cases Kerb.isSerial (Kerb.keySerial k) <;> rfl

theorem w116 : Walked Tryz.prog G 116 2 sp116 := by
  refine ⟨Tryz.f116, Tryz.func116, by decide +kernel, rfl, fun xs bl r h => ?_⟩
  unfold sp116 at h
  split at h
  · obtain ⟨h1, h2⟩ := chk_inv h; cases h2; exact p116 _ h1
  · cases h

/- internal/stringslite.IndexByte -/
theorem r123 (s : List UInt8) (c : UInt8) : runFn (G.env 123 2) G.rts (G.own 123) Tryz.f123 [.str s, .u8 c] [] = some (AV.int IntKind.i64 (Kerb.indexOf c s), []) := by kernel_rfl

theorem p123 (s : List UInt8) (c : UInt8) : runFn (G.env 123 2) G.rts (G.own 123) Tryz.f123 [.str s, .u8 c] [] = some (.int .i64 (Kerb.indexOf c s), []) := by
  rw [r123]


theorem w123 : Walked Tryz.prog G 123 2 sp123 := by
  refine ⟨Tryz.f123, Tryz.func123, by decide +kernel, rfl, fun xs bl r h => ?_⟩
  unfold sp123 at h
  split at h
  · cases h; exact p123 _ _
  · cases h

end Go.Proofs.YtbgmiljaiaagdaaGreat