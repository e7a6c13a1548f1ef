/- Operations on numbers, truth values and strings; stores. -/
import Derived.Test.YtilkpebjgmkbmaaGreatAbsOps2
import Derived.Laws.IdiomStrings
import Derived.Lib.Strings
namespace Go.Abs
set_option linter.unusedVariables false
section
variable {P : Program} {B : Nat} {M : Nat → Prop} {w0 : World} {p0 : Prot} {w : World} {p : Prot} {g : Nat → Value} {u : Nat → Prop}
theorem intsOf_inv {α : Type} {x y : Value} {a b : AV} (hx : RepV w p g u x a) (hy : RepV w p g u y b) {k : IntKind → Int → Int → Option α} {r : α} (h : intsOf a b k = some r) :
    ∃ kd n m, x = .int kd n ∧ y = .int kd m ∧ k kd n m = some r ∧ (kd = .u8 → (0 ≤ n ∧ n < 256) ∧ (0 ≤ m ∧ m < 256)) := by
  unfold intsOf at h
  split at h
  · rename_i k1 n k2 m
    obtain ⟨rfl, h1⟩ := hx.int
    obtain ⟨rfl, h2⟩ := hy.int
    cases he : (k1 == k2) with
    | false => simp [he] at h
    | true =>
      simp [he] at h
      have : k1 = k2 := by simpa using he
      subst this
      exact ⟨k1, n, m, rfl, rfl, h, fun e => absurd e h1⟩
  · rename_i n m
    have e1 := hx.u8
    have e2 := hy.u8
    subst e1; subst e2
    refine ⟨.u8, n.toNat, m.toNat, rfl, rfl, h, fun _ => ?_⟩
    have := n.toNat_lt; have := m.toNat_lt
    omega
  · cases h
theorem run_bin_ints (op : BinOp) (t : TypeId) (k : IntKind) (n m : Int) (h1 : op ≠ .shl) (h2 : op ≠ .shr) :
    binOp op t (.int k n) (.int k m) = (match op with
    | .add | .sub | .mul => Op.intArith op k n m
    | .quo | .rem => Op.intDiv op k n m
    | .and | .or | .xor | .andNot => Op.intBits op k n m
    | _ => Op.intCmp op n m) := by
  cases op <;> first | exact absurd rfl h1 | exact absurd rfl h2 | simp [binOp]
theorem tmod_u8 {n m : Int} (hn : 0 ≤ n ∧ n < 256) : 0 ≤ n.tmod m ∧ n.tmod m < 256 := by
  have h1 : 0 ≤ n.tmod m := Int.tmod_nonneg m hn.1
  have h2 := Int.natAbs_tmod n m
  have h3 := Nat.mod_le n.natAbs m.natAbs
  omega
theorem shift_inv {y : Value} {b : AV} (hy : RepV w p g u y b) {m : Int} (h : shiftAmt b = some m) : ∃ k, y = .int k m := by
  unfold shiftAmt at h
  split at h
  · cases h; exact ⟨_, hy.int.1⟩
  · cases h; exact ⟨_, hy.u8⟩
  · cases h
theorem idx_inv {y : Value} {b : AV} (hy : RepV w p g u y b) {m : Int} (h : idx b = some m) : ∃ k, y = .int k m := by
  unfold idx at h
  split at h
  · cases h; exact ⟨_, hy.int.1⟩
  · cases h; exact ⟨_, hy.u8⟩
  · cases h
theorem fdiv_u8 {n : Int} {j : Nat} (hn : 0 ≤ n ∧ n < 256) : 0 ≤ n.fdiv (2 ^ j) ∧ n.fdiv (2 ^ j) < 256 := by
  have hp : (0 : Int) < 2 ^ j := Int.pow_pos (by decide)
  rw [Int.fdiv_eq_ediv_of_nonneg _ (Int.le_of_lt hp)]
  have h1 := Int.ediv_nonneg hn.1 (Int.le_of_lt hp)
  have h2 := Int.ediv_le_self (2 ^ j) hn.1
  omega
theorem cellEq_inv {x y : Value} {a b : AV} (hx : RepV w p g u x a) (hy : RepV w p g u y b) {c : Bool} (h : cellEq a b = some c) :
    (∃ k n m, x = .int k n ∧ y = .int k m ∧ c = (n == m)) ∨ (∃ s t, x = .bool s ∧ y = .bool t ∧ c = (s == t)) ∨ (∃ s t : ByteArray, x = .string s ∧ y = .string t ∧ c = (s.data.toList == t.data.toList)) := by
  unfold cellEq at h
  split at h
  · rename_i k1 n k2 m
    obtain ⟨rfl, _⟩ := hx.int
    obtain ⟨rfl, _⟩ := hy.int
    cases he : (k1 == k2) with
    | false => simp [he] at h
    | true =>
      simp [he] at h
      have : k1 = k2 := by simpa using he
      subst this
      exact .inl ⟨_, _, _, rfl, rfl, h.symm⟩
  · rename_i n m
    have e1 := hx.u8
    have e2 := hy.u8
    subst e1; subst e2
    cases h
    refine .inl ⟨_, _, _, rfl, rfl, ?_⟩
    rw [Bool.eq_iff_iff]
    simp
    constructor
    · rintro rfl; rfl
    · intro h; exact UInt8.toNat.inj (by omega)
  · have e1 := hx.bool
    have e2 := hy.bool
    subst e1; subst e2
    cases h
    exact .inr (.inl ⟨_, _, rfl, rfl, rfl⟩)
  · obtain ⟨s, rfl, hs⟩ := hx.str
    obtain ⟨t, rfl, ht⟩ := hy.str
    cases h
    exact .inr (.inr ⟨s, t, rfl, rfl, by rw [hs, ht]⟩)
  · cases h
theorem run_cell_eq {t : TypeId} {x y : Value} {a b : AV} (hx : RepV w p g u x a) (hy : RepV w p g u y b) {c : Bool} (h : cellEq a b = some c) (hb : ∀ s r, x = .bool s → y = .bool r → P.underlying t = some .bool) :
    (binOp .eql t x y).run P w = .ok (.bool c) w ∧ (binOp .neq t x y).run P w = .ok (.bool !c) w := by
  rcases cellEq_inv hx hy h with ⟨k, n, m, rfl, rfl, rfl⟩ | ⟨s, r, rfl, rfl, rfl⟩ | ⟨s, r, rfl, rfl, rfl⟩
  · constructor <;> simp [binOp, Op.intCmp, bne]
  · have := hb s r rfl rfl
    have he : ∀ d, (Op.equalIn (d + 1) t (.bool s) (.bool r)).run P w = .ok (s == r) w := fun d => by simp [Op.equalIn, run_underlying this]
    constructor <;> (simp only [binOp]; simp [Op.equal, Op.maxDepth, he 9999])
  · constructor <;> simp [binOp, Op.stringOp, Lib.toList_data]
theorem eqGuard_cell {op : BinOp} {t : TypeId} {x y : Operand} {v v' : Value} (h : ∀ arr, v ≠ .agg arr) (h' : v ≠ .nilIface) : (eqGuard op t x y v v').run P w = .ok () w := by
  cases op <;> first | rfl | (cases v <;> first | rfl | exact absurd rfl (h _) | exact absurd rfl h')
theorem repV_notAgg {v : Value} {a : AV} (h : RepV w p g u v a) (hc : a.isCell = true) : (∀ arr, v ≠ .agg arr) ∧ v ≠ .nilIface := by
  rcases h with rfl | (h | ⟨arr, cs, rfl, rfl, h⟩) | ⟨arr, cs, rfl, rfl, h⟩
  · simp [AV.isCell] at hc
  · cases h with
    | imm h => cases h <;> simp [u8v]
    | ptr => simp
    | eptr => simp
    | row hu hs => obtain ⟨a, l, c, e⟩ := hs; rw [e]; simp
    | psl => simp
    | pptr => simp
    | pre => simp
    | suf => simp
  · simp [AV.isCell] at hc
  · simp [AV.isCell] at hc
theorem sim_bin {op : BinOp} {t : TypeId} {x y : Value} {a b v : AV} (hx : RepV w p g u x a) (hy : RepV w p g u y b) (h : doBin op a b = some v) (ha : a.isCell = true)
    (hb : ∀ s r, x = .bool s → y = .bool r → P.underlying t = some .bool) : ∃ v', (binOp op t x y).run P w = .ok v' w ∧ RepI w p v' v := by
  unfold doBin at h
  split at h
  · -- shl
    split at h
    · rename_i k n m hm
      obtain ⟨rfl, hk⟩ := hx.int
      obtain ⟨k', rfl⟩ := shift_inv hy hm
      cases h0 : decide (0 ≤ m) with
      | false => simp [h0, chk] at h
      | true =>
        simp [h0, chk] at h
        subst h
        have : ¬ m < 0 := by simp at h0; omega
        exact ⟨_, by simp [binOp, Op.shift, this], .int hk⟩
    · rename_i n m hm
      have e := hx.u8; subst e
      obtain ⟨k', rfl⟩ := shift_inv hy hm
      cases h0 : decide (0 ≤ m) with
      | false => simp [h0, chk] at h
      | true =>
        simp [h0, chk] at h
        subst h
        have : ¬ m < 0 := by simp at h0; omega
        refine ⟨_, ?_, repI_mkInt fun _ => wrap_u8 _⟩
        simp [u8v, binOp, Op.shift, this, IntKind.bits]
    · cases h
  · -- shr
    split at h
    · rename_i k n m hm
      obtain ⟨rfl, hk⟩ := hx.int
      obtain ⟨k', rfl⟩ := shift_inv hy hm
      cases h0 : decide (0 ≤ m) with
      | false => simp [h0, chk] at h
      | true =>
        simp [h0, chk] at h
        subst h
        have : ¬ m < 0 := by simp at h0; omega
        exact ⟨_, by simp [binOp, Op.shift, this], .int hk⟩
    · rename_i n m hm
      have e := hx.u8; subst e
      obtain ⟨k', rfl⟩ := shift_inv hy hm
      cases h0 : decide (0 ≤ m) with
      | false => simp [h0, chk] at h
      | true =>
        simp [h0, chk] at h
        subst h
        have : ¬ m < 0 := by simp at h0; omega
        have hn := n.toNat_lt
        refine ⟨_, ?_, repI_mkInt fun _ => fdiv_u8 ⟨by omega, by omega⟩⟩
        simp [u8v, binOp, Op.shift, this, IntKind.bits]
    · cases h
  · -- add
    split at h
    · rename_i s s'
      obtain ⟨s, rfl, rfl⟩ := hx.str
      obtain ⟨s', rfl, rfl⟩ := hy.str
      cases h0 : decide (s.data.toList.length + s'.data.toList.length ≤ 4611686018427387904) with
      | false => rw [h0] at h; cases h
      | true =>
        simp only [h0, chk, cond_true, Option.some.injEq] at h
        subst h
        have hle : s.size + s'.size ≤ 4611686018427387904 := by simpa using of_decide_eq_true h0
        have : ¬ ((s.size + s'.size : Nat) : Int) > IntKind.i64.max := by simp [IntKind.max, IntKind.signed, IntKind.bits]; omega
        refine ⟨.string (s ++ s'), ?_, .str (by simp)⟩
        simp only [binOp, Op.stringOp, this, if_false]
        rfl
    · obtain ⟨k, n, m, rfl, rfl, hk, hr⟩ := intsOf_inv hx hy h
      cases hk
      exact ⟨_, by rw [run_bin_ints _ _ _ _ _ (by simp) (by simp)]; simp [Op.intArith], repI_mkInt fun e => by subst e; exact wrap_u8 _⟩
  · obtain ⟨k, n, m, rfl, rfl, hk, hr⟩ := intsOf_inv hx hy h
    cases hk
    exact ⟨_, by rw [run_bin_ints _ _ _ _ _ (by simp) (by simp)]; simp [Op.intArith], repI_mkInt fun e => by subst e; exact wrap_u8 _⟩
  · obtain ⟨k, n, m, rfl, rfl, hk, hr⟩ := intsOf_inv hx hy h
    cases hk
    exact ⟨_, by rw [run_bin_ints _ _ _ _ _ (by simp) (by simp)]; simp [Op.intArith], repI_mkInt fun e => by subst e; exact wrap_u8 _⟩
  · -- quo
    obtain ⟨k, n, m, rfl, rfl, hk, hr⟩ := intsOf_inv hx hy h
    cases h0 : (m == 0) with
    | true => simp [h0, chk] at hk
    | false =>
      simp [h0, chk] at hk
      subst hk
      have : m ≠ 0 := by simpa using h0
      exact ⟨_, by rw [run_bin_ints _ _ _ _ _ (by simp) (by simp)]; simp [Op.intDiv, this], repI_mkInt fun e => by subst e; exact wrap_u8 _⟩
  · -- rem
    obtain ⟨k, n, m, rfl, rfl, hk, hr⟩ := intsOf_inv hx hy h
    cases h0 : (m == 0) with
    | true => simp [h0, chk] at hk
    | false =>
      simp [h0, chk] at hk
      subst hk
      have : m ≠ 0 := by simpa using h0
      exact ⟨_, by rw [run_bin_ints _ _ _ _ _ (by simp) (by simp)]; simp [Op.intDiv, this], repI_mkInt fun e => by subst e; exact tmod_u8 (hr rfl).1⟩
  · obtain ⟨k, n, m, rfl, rfl, hk, hr⟩ := intsOf_inv hx hy h
    cases hk
    exact ⟨_, by rw [run_bin_ints _ _ _ _ _ (by simp) (by simp)]; rfl, repI_mkInt fun e => by subst e; exact wrap_u8 _⟩
  · obtain ⟨k, n, m, rfl, rfl, hk, hr⟩ := intsOf_inv hx hy h
    cases hk
    exact ⟨_, by rw [run_bin_ints _ _ _ _ _ (by simp) (by simp)]; rfl, repI_mkInt fun e => by subst e; exact wrap_u8 _⟩
  · obtain ⟨k, n, m, rfl, rfl, hk, hr⟩ := intsOf_inv hx hy h
    cases hk
    exact ⟨_, by rw [run_bin_ints _ _ _ _ _ (by simp) (by simp)]; rfl, repI_mkInt fun e => by subst e; exact wrap_u8 _⟩
  · -- lss
    split at h
    · obtain ⟨s, rfl, rfl⟩ := hx.str
      obtain ⟨s', rfl, rfl⟩ := hy.str
      cases h
      exact ⟨_, by simp [binOp, Op.stringOp, Lib.toList_data], .bool⟩
    · obtain ⟨k, n, m, rfl, rfl, hk, hr⟩ := intsOf_inv hx hy h
      cases hk
      exact ⟨_, by rw [run_bin_ints _ _ _ _ _ (by simp) (by simp)]; rfl, .bool⟩
  · obtain ⟨k, n, m, rfl, rfl, hk, hr⟩ := intsOf_inv hx hy h
    cases hk
    exact ⟨_, by rw [run_bin_ints _ _ _ _ _ (by simp) (by simp)]; rfl, .bool⟩
  · -- gtr
    split at h
    · obtain ⟨s, rfl, rfl⟩ := hx.str
      obtain ⟨s', rfl, rfl⟩ := hy.str
      cases h
      exact ⟨.bool _, by simp only [binOp, Op.stringOp, Lib.toList_data]; rfl, .bool⟩
    · obtain ⟨k, n, m, rfl, rfl, hk, hr⟩ := intsOf_inv hx hy h
      cases hk
      exact ⟨_, by rw [run_bin_ints _ _ _ _ _ (by simp) (by simp)]; rfl, .bool⟩
  · obtain ⟨k, n, m, rfl, rfl, hk, hr⟩ := intsOf_inv hx hy h
    cases hk
    exact ⟨_, by rw [run_bin_ints _ _ _ _ _ (by simp) (by simp)]; rfl, .bool⟩
  · -- eql
    split at h
    · simp [AV.isCell] at ha
    · cases hc : cellEq a b with
      | none => simp [hc] at h
      | some c =>
        simp [hc] at h
        subst h
        exact ⟨_, (run_cell_eq hx hy hc hb).1, .bool⟩
  · split at h
    · simp [AV.isCell] at ha
    · cases hc : cellEq a b with
      | none => simp [hc] at h
      | some c =>
        simp [hc] at h
        subst h
        exact ⟨_, (run_cell_eq hx hy hc hb).2, .bool⟩
  · cases h
theorem sim_un {op : UnOp} {x : Value} {a v : AV} (hx : RepV w p g u x a) (h : doUn op a = some v) : ∃ v', (Op.unary op x).run P w = .ok v' w ∧ RepI w p v' v := by
  unfold doUn at h
  split at h
  · have e := hx.bool; subst e; cases h
    exact ⟨_, rfl, .bool⟩
  · obtain ⟨rfl, hk⟩ := hx.int
    cases h
    exact ⟨_, by simp [Op.unary, Op.intArith], .int hk⟩
  · cases h
end
end Go.Abs
