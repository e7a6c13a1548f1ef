/- The types' facts; constants; operations that touch no memory. -/
import Derived.Test.YtilkpebjgmkbmaaGreatAbsRep
namespace Go.Abs
set_option linter.unusedVariables false
theorem mkTI_info {P : Program} {t : Nat} {i : TI} (h : mkTI P t = some i) : ∃ info z, P.info? t = some info ∧ info.size = i.size ∧ info.bytes = i.bytes ∧ info.zero = some z ∧ ofCells z.cells.toList = some i.zero ∧ i.zero.length = i.size ∧ i.cts.length = i.size ∧ kindOf P t = some i.kind ∧ ctsOf P 20 t = some i.cts ∧ i.eqc = (if P.eqGuardType P.depth t = false then (eqCts P 20 t).getD [] else []) := by
  unfold mkTI at h
  split at h
  · rename_i info k cts h1 h2 h3
    cases hz : info.zero with
    | none => simp [hz] at h
    | some z =>
      cases hc : ofCells z.cells.toList with
      | none => simp [hz, hc] at h
      | some cs =>
        simp only [hz, Option.bind_some, hc] at h
        split at h
        · rename_i hl
          simp at hl
          cases h
          exact ⟨info, z, h1, rfl, rfl, hz, hc, hl.1, hl.2, h2, h3, rfl⟩
        · cases h
  · cases h
theorem kind_slice {P : Program} {t e : Nat} {b : Bool} (h : kindOf P t = some (.slice e b)) : P.underlying t = some (.slice e) ∧ b = isU8 P e := by
  unfold kindOf at h
  split at h <;> first | (cases h; exact ⟨by assumption, rfl⟩) | (split at h <;> cases h) | cases h
theorem kind_arr {P : Program} {t n e : Nat} {b : Bool} (h : kindOf P t = some (.arr n e b)) : P.underlying t = some (.array n e) ∧ b = isU8 P e := by
  unfold kindOf at h
  split at h <;> first | (cases h; exact ⟨by assumption, rfl⟩) | (split at h <;> cases h) | cases h
theorem kind_ptr {P : Program} {t e : Nat} (h : kindOf P t = some (.ptr e)) : P.underlying t = some (.pointer e) := by
  unfold kindOf at h
  split at h <;> first | (cases h; assumption) | (split at h <;> cases h) | cases h
theorem kind_str {P : Program} {t : Nat} (h : kindOf P t = some .str) : P.underlying t = some .string := by
  unfold kindOf at h
  split at h <;> first | (cases h; assumption) | (split at h <;> cases h) | cases h
theorem kind_bool {P : Program} {t : Nat} (h : kindOf P t = some .bool) : P.underlying t = some .bool := by
  unfold kindOf at h
  split at h <;> first | (cases h; assumption) | (split at h <;> cases h) | cases h
theorem kind_u8 {P : Program} {t : Nat} (h : kindOf P t = some .u8) : P.underlying t = some (.int .u8) := by
  unfold kindOf at h
  split at h <;> first | (cases h; assumption) | (split at h <;> cases h) | cases h
theorem kind_int {P : Program} {t : Nat} {k : IntKind} (h : kindOf P t = some (.int k)) : P.underlying t = some (.int k) ∧ k ≠ .u8 := by
  unfold kindOf at h
  split at h
  · cases h
  · rename_i k' hne hu
    cases h
    exact ⟨hu, fun e => hne (by rw [← e])⟩
  all_goals (try (split at h)) <;> cases h
theorem kind_struct {P : Program} {t : Nat} {fs : List (Nat × Nat)} (h : kindOf P t = some (.struct fs)) : ∃ fields, P.underlying t = some (.struct fields) ∧ (∀ f ∈ fields.toList, sized P f.type = true ∧ f.name ≠ "_") ∧ fs = fields.toList.map fun f => (f.offset, f.type) := by
  unfold kindOf at h
  split at h
  case h_8 fields hu =>
    split at h
    · rename_i hall
      cases h
      refine ⟨fields, hu, fun f hf => ?_, rfl⟩
      have := List.all_eq_true.1 hall f hf
      simp at this
      exact this
    · cases h
  all_goals cases h
theorem isU8_iff {P : Program} {e : Nat} (h : isU8 P e = true) : P.underlying e = some (.int .u8) ∧ ∃ info, P.info? e = some info ∧ info.size = 1 ∧ info.bytes = 1 ∧ info.zero = some (.int .u8 0) := by
  unfold isU8 at h
  split at h
  · rename_i i h1 h2
    simp only [Bool.and_eq_true, beq_iff_eq] at h
    refine ⟨h1, i, h2, h.1.1, h.1.2, ?_⟩
    have h3 := h.2
    split at h3
    · assumption
    · cases h3
  · cases h
theorem run_isAgg {P : Program} {t : Nat} {k : TK} (h : kindOf P t = some k) (w : World) : (isAgg t).run P w = .ok (isAggK k) w := by
  unfold isAgg
  cases k with
  | int k => simp [run_underlying (kind_int h).1, isAggK]
  | u8 => simp [run_underlying (kind_u8 h), isAggK]
  | bool => simp [run_underlying (kind_bool h), isAggK]
  | str => simp [run_underlying (kind_str h), isAggK]
  | slice e b => simp [run_underlying (kind_slice h).1, isAggK]
  | arr n e b => simp [run_underlying (kind_arr h).1, isAggK]
  | struct fs => obtain ⟨fields, hu, _⟩ := kind_struct h; simp [run_underlying hu, isAggK]
  | ptr e => simp [run_underlying (kind_ptr h), isAggK]
  | other => unfold kindOf at h; split at h <;> first | (split at h <;> cases h) | cases h
theorem run_sizeOf {P : Program} {t : Nat} {info : TypeInfo} (h : P.info? t = some info) (w : World) : (sizeOf t).run P w = .ok info.size w := by
  simp [sizeOf, typeInfo, h]
theorem run_zeroValue {P : Program} {t : Nat} {info : TypeInfo} {z : Value} (h : P.info? t = some info) (hz : info.zero = some z) (w : World) : (zeroValue t).run P w = .ok z w := by
  simp [zeroValue, typeInfo, h, hz]
theorem mkInt_ne {k : IntKind} (hk : k ≠ .u8) (n : Int) : mkInt k n = .int k n := by cases k <;> first | rfl | exact absurd rfl hk
theorem repI_mkInt {w : World} {p : Prot} {k : IntKind} {n : Int} (h : k = .u8 → 0 ≤ n ∧ n < 256) : RepI w p (.int k n) (mkInt k n) := by
  by_cases hk : k = .u8
  · subst hk
    obtain ⟨h0, h1⟩ := h rfl
    have e : (Value.int .u8 n) = u8v (UInt8.ofNat n.toNat) := by
      unfold u8v
      congr 1
      rw [UInt8.toNat_ofNat']
      omega
    rw [e]
    exact .u8
  · rw [mkInt_ne hk]; exact .int hk
theorem wrap_u8 (n : Int) : 0 ≤ IntKind.u8.wrap n ∧ IntKind.u8.wrap n < 256 := by
  unfold IntKind.wrap
  simp [IntKind.bits, IntKind.signed]
  omega
theorem ofCell_rep {w : World} {p : Prot} {v : Value} {a : AV} (h : ofCell v = some a) : RepI w p v a := by
  unfold ofCell at h
  split at h
  · cases h; exact .bool
  · rename_i k n
    split at h
    · cases hc : (decide (0 ≤ n) && decide (n < 256)) with
      | false => simp [hc] at h
      | true =>
        rw [hc] at h
        have h' : AV.u8 (UInt8.ofNat n.toNat) = a := by simpa using h
        subst h'
        simp at hc
        exact repI_mkInt (k := .u8) fun _ => hc
    · rename_i hk
      cases h; exact .int fun e => hk e
  · cases h; exact .str rfl
  · cases h; exact .nils
  · cases h; exact .nilp
  · cases h
theorem ofCells_rep {w : World} {p : Prot} : ∀ {vs : List Value} {as : List AV}, ofCells vs = some as → Cells (RepI w p) vs as
  | [], as, h => by simp [ofCells] at h; subst h; exact .nil
  | v :: r, as, h => by
    simp only [ofCells] at h
    split at h
    · rename_i a l h1 h2
      cases h
      exact .cons (ofCell_rep h1) (ofCells_rep h2)
    · cases h
section
variable {w : World} {p : Prot} {g : Nat → Value} {u : Nat → Prop}
theorem ofVal_rep {v : Value} {a : AV} (h : ofVal v = some a) : RepV w p g u v a := by
  unfold ofVal at h
  split at h
  · rename_i cs
    cases hc : ofCells cs.toList with
    | none => simp [hc] at h
    | some l =>
      simp [hc] at h
      subst h
      exact .inr (.inl (.inr ⟨cs, l, rfl, rfl, (ofCells_rep hc).imp fun _ _ => .imm⟩))
  · exact .inr (.inl (.inl (.imm (ofCell_rep h))))
theorem RepI.cell1 {v : Value} {a : AV} (h : RepI w p v a) : v.cells = #[v] ∧ v.oneCell' = true ∧ a.cells = [a] ∧ a.isCell = true := by
  cases h <;> simp [Value.cells, Value.oneCell', AV.cells, AV.isCell, u8v]
theorem RepC.cell1 {v : Value} {a : AV} (h : RepC w p g u v a) : v.cells = #[v] ∧ v.oneCell' = true ∧ a.cells = [a] ∧ a.isCell = true := by
  cases h with
  | imm h => exact h.cell1
  | ptr => simp [Value.cells, Value.oneCell', AV.cells, AV.isCell]
  | eptr => simp [Value.cells, Value.oneCell', AV.cells, AV.isCell]
  | row hu hs => obtain ⟨a, l, c, e⟩ := hs; rw [e]; simp [Value.cells, Value.oneCell', AV.cells, AV.isCell]
  | psl => simp [Value.cells, Value.oneCell', AV.cells, AV.isCell]
  | pptr => simp [Value.cells, Value.oneCell', AV.cells, AV.isCell]
  | pre => simp [Value.cells, Value.oneCell', AV.cells, AV.isCell]
  | suf => simp [Value.cells, Value.oneCell', AV.cells, AV.isCell]
theorem RepV.cells {v : Value} {a : AV} (h : RepV w p g u v a) (hc : a.cells.all AV.isCell = true) : Cells (RepC w p g u) v.cells.toList a.cells := by
  rcases h with rfl | (h | ⟨arr, cs, rfl, rfl, h⟩) | ⟨arr, cs, rfl, rfl, h⟩
  · simp [AV.cells, AV.isCell] at hc
  · rw [h.cell1.1, h.cell1.2.2.1]; exact .cons h .nil
  · exact h
  · simp [AV.cells, AV.isCell] at hc
theorem Cells.one {vs : List Value} {cs : List AV} (h : Cells (RepC w p g u) vs cs) : ∀ v ∈ vs, v.oneCell' = true := by
  intro v hv
  obtain ⟨i, hi⟩ := List.getElem?_of_mem hv
  have hlt : i < cs.length := by rw [← h.len]; exact (List.getElem?_eq_some_iff.1 hi).1
  exact (h.each i v _ hi (List.getElem?_eq_getElem hlt)).cell1.2.1
theorem Cells.oneI {vs : List Value} {cs : List AV} (h : Cells (RepI w p) vs cs) : ∀ v ∈ vs, v.oneCell' = true := by
  intro v hv
  obtain ⟨i, hi⟩ := List.getElem?_of_mem hv
  have hlt : i < cs.length := by rw [← h.len]; exact (List.getElem?_eq_some_iff.1 hi).1
  exact (h.each i v _ hi (List.getElem?_eq_getElem hlt)).cell1.2.1
theorem RepV.int {v : Value} {k : IntKind} {n : Int} (h : RepV w p g u v (.int k n)) : v = .int k n ∧ k ≠ .u8 := by
  rcases h with h | (h | ⟨arr, cs, _, h, _⟩) | ⟨arr, cs, _, h, _⟩ <;> first | cases h
  rename_i h; cases h; exact ⟨rfl, by assumption⟩
theorem RepV.u8 {v : Value} {b : UInt8} (h : RepV w p g u v (.u8 b)) : v = u8v b := by
  rcases h with h | (h | ⟨arr, cs, _, h, _⟩) | ⟨arr, cs, _, h, _⟩ <;> first | cases h
  rename_i h; cases h; rfl
theorem RepV.bool {v : Value} {b : Bool} (h : RepV w p g u v (.bool b)) : v = .bool b := by
  rcases h with h | (h | ⟨arr, cs, _, h, _⟩) | ⟨arr, cs, _, h, _⟩ <;> first | cases h
  rename_i h; cases h; rfl
theorem RepV.str {v : Value} {l : List UInt8} (h : RepV w p g u v (.str l)) : ∃ s : ByteArray, v = .string s ∧ s.data.toList = l := by
  rcases h with h | (h | ⟨arr, cs, _, h, _⟩) | ⟨arr, cs, _, h, _⟩ <;> first | cases h
  rename_i h; cases h; exact ⟨_, rfl, by assumption⟩
theorem RepV.bs {v : Value} {l : List UInt8} (h : RepV w p g u v (.bs l)) : RepI w p v (.bs l) := by
  rcases h with h | (h | ⟨arr, cs, _, h, _⟩) | ⟨arr, cs, _, h, _⟩ <;> first | cases h
  assumption
theorem RepV.sl {v : Value} {z : Nat} {l : List AV} (h : RepV w p g u v (.sl z l)) : RepI w p v (.sl z l) := by
  rcases h with h | (h | ⟨arr, cs, _, h, _⟩) | ⟨arr, cs, _, h, _⟩ <;> first | cases h
  assumption
theorem RepV.nils {v : Value} (h : RepV w p g u v .nils) : ∃ a, v = .slice a 0 0 := by
  rcases h with h | (h | ⟨arr, cs, _, h, _⟩) | ⟨arr, cs, _, h, _⟩ <;> first | cases h
  rename_i h; cases h; exact ⟨_, rfl⟩
theorem RepV.row {v : Value} {k : Nat} (h : RepV w p g u v (.row k)) : u k ∧ v = g k ∧ ∃ a l c, g k = .slice a l c := by
  rcases h with h | (h | ⟨arr, cs, _, h, _⟩) | ⟨arr, cs, _, h, _⟩ <;> first | cases h
  · rename_i h; cases h
  · exact ⟨by assumption, rfl, by assumption⟩
theorem RepV.ptr {v : Value} {k off : Nat} (h : RepV w p g u v (.ptr k off)) : u k ∧ ∃ β, g k = .pointer (some ⟨β, 0, none⟩) ∧ v = .pointer (some ⟨β, off, none⟩) := by
  rcases h with h | (h | ⟨arr, cs, _, h, _⟩) | ⟨arr, cs, _, h, _⟩ <;> first | cases h
  · rename_i h; cases h
  · exact ⟨by assumption, _, by assumption, rfl⟩
theorem RepV.eptr {v : Value} {k i sz off : Nat} (h : RepV w p g u v (.eptr k i sz off)) : u k ∧ ∃ β, vblk (g k) = some β ∧ v = .pointer (some ⟨β, i * sz + off, none⟩) := by
  rcases h with h | (h | ⟨arr, cs, _, h, _⟩) | ⟨arr, cs, _, h, _⟩ <;> first | cases h
  · rename_i h; cases h
  · exact ⟨by assumption, _, by assumption, rfl⟩
theorem RepV.rptr {v : Value} {cs : List AV} (h : RepV w p g u v (.rptr cs)) : RepI w p v (.rptr cs) := by
  rcases h with h | (h | ⟨arr, cs, _, h, _⟩) | ⟨arr, cs, _, h, _⟩ <;> first | cases h
  assumption
theorem RepV.pptr {v : Value} {k off : Nat} (h : RepV w p g u v (.pptr k off)) : u k ∧ ∃ β j b, g k = .pointer (some ⟨b, 0, none⟩) ∧ v = .pointer (some ⟨β, j, none⟩) ∧ w.cell? ⟨β, j, none⟩ = some (.pointer (some ⟨b, off, none⟩)) := by
  rcases h with h | (h | ⟨arr, cs, _, h, _⟩) | ⟨arr, cs, _, h, _⟩ <;> first | cases h
  · rename_i h; cases h
  · rename_i hp hu hg hc; exact ⟨by assumption, _, _, _, by assumption, rfl, by assumption⟩
theorem RepV.psl {v : Value} {k : Nat} {offs : List Nat} (h : RepV w p g u v (.psl k offs)) : u k ∧ ∃ β b cap, g k = .pointer (some ⟨b, 0, none⟩) ∧ v = .slice (some ⟨β, 0, none⟩) offs.length cap ∧ ∀ (j off : Nat), offs[j]? = some off → j < p β ∧ w.cell? ⟨β, j, none⟩ = some (.pointer (some ⟨b, off, none⟩)) := by
  rcases h with h | (h | ⟨arr, cs, _, h, _⟩) | ⟨arr, cs, _, h, _⟩ <;> first | cases h
  · rename_i h; cases h
  · exact ⟨by assumption, _, _, _, by assumption, rfl, by assumption⟩
theorem RepV.fn {v : Value} {f : Nat} (h : RepV w p g u v (.fn f)) : v = .func (.func f) #[] #[] := by
  rcases h with h | (h | ⟨arr, cs, _, h, _⟩) | ⟨arr, cs, _, h, _⟩ <;> first | cases h
  rename_i h; cases h; rfl
theorem RepV.pre {v : Value} {k n : Nat} (h : RepV w p g u v (.pre k n)) : u k ∧ ∃ β l cap, g k = .slice (some ⟨β, 0, none⟩) l cap ∧ n ≤ l ∧ v = .slice (some ⟨β, 0, none⟩) n cap := by
  rcases h with h | (h | ⟨arr, cs, _, h, _⟩) | ⟨arr, cs, _, h, _⟩ <;> first | cases h
  · rename_i h; cases h
  · exact ⟨by assumption, _, _, _, by assumption, by assumption, rfl⟩
theorem RepV.suf {v : Value} {k m : Nat} (h : RepV w p g u v (.suf k m)) : u k ∧ ∃ β l cap a, g k = .slice (some ⟨β, 0, none⟩) l cap ∧ m ≤ l ∧ (m = l ∨ a = some ⟨β, m, none⟩) ∧ v = .slice a (l - m) (cap - m) := by
  rcases h with h | (h | ⟨arr, cs, _, h, _⟩) | ⟨arr, cs, _, h, _⟩ <;> first | cases h
  · rename_i h; cases h
  · exact ⟨by assumption, _, _, _, _, by assumption, by assumption, by assumption, rfl⟩
theorem RepV.agg {v : Value} {cs : List AV} (h : RepV w p g u v (.agg cs)) : ∃ arr, v = .agg arr ∧ Cells (RepC w p g u) arr.toList cs := by
  rcases h with h | (h | ⟨arr, cs', rfl, h, hc⟩) | ⟨arr, cs, _, h, _⟩
  · cases h
  · cases h with | imm h => cases h
  · cases h; exact ⟨arr, rfl, hc⟩
  · cases h
theorem RepV.tup {v : Value} {as : List AV} (h : RepV w p g u v (.tup as)) : ∃ arr, v = .tuple arr ∧ Cells (RepW w p g u) arr.toList as := by
  rcases h with h | (h | ⟨arr, cs', rfl, h, hc⟩) | ⟨arr, as', rfl, h, hc⟩
  · cases h
  · cases h with | imm h => cases h
  · cases h
  · cases h; exact ⟨arr, rfl, hc⟩
theorem RepI.v {v : Value} {a : AV} (h : RepI w p v a) : RepV w p g u v a := .inr (.inl (.inl (.imm h)))
theorem RepC.v {v : Value} {a : AV} (h : RepC w p g u v a) : RepV w p g u v a := .inr (.inl (.inl h))
end
end Go.Abs
