/- Fields, indexes, lengths, conversions, cuts. -/
import Derived.Test.YtilkpebjgmkbmaaGreatAbsOps4
namespace Go.Abs
set_option linter.unusedVariables false
section
variable {P : Program} {B : Nat} {M : Nat → Prop} {w0 : World} {p0 : Prot} {w : World} {p : Prot} {g : Nat → Value}
theorem run_fieldAt {t : Nat} {i : TI} (hi : mkTI P t = some i) {f : Nat} {q : Nat × Nat} (hf : fieldOf i f = some q) (β off : Nat) :
    (Instr.fieldAt t (.pointer (some ⟨β, off, none⟩)) f).run P w = .ok (.pointer (some ⟨β, off + q.1, none⟩)) w := by
  obtain ⟨info, z, a1, a2, a3, a4, a5, a6, a7, a8, a9, _⟩ := mkTI_info hi
  unfold fieldOf at hf
  split at hf
  · rename_i fs hk
    rw [hk] at a8
    obtain ⟨fields, hu, hall, rfl⟩ := kind_struct a8
    rw [List.getElem?_map] at hf
    cases hq : fields.toList[f]? with
    | none => simp [hq] at hf
    | some fd =>
      simp [hq] at hf
      subst hf
      have hsz := (hall fd (List.mem_of_getElem? hq)).1
      unfold sized at hsz
      split at hsz
      · rename_i j hj
        have hpos : 0 < j.size := Nat.le_of_ble_eq_true hsz
        have hne : j.size ≠ 0 := by omega
        have hq' : fields[f]? = some fd := by simpa using hq
        simp [Instr.fieldAt, run_underlying hu, hq', Instr.sureAddr, fieldPlace, run_sizeOf hj, hne, addr_add]
      · cases hsz
  · cases hf
theorem sim_fieldAddr {α : Type} {fr : Fr} {t f : Nat} {i : TI} (hi : mkTI P t = some i) (h : SInv B M w0 p0 w p g fr.st) {q : Nat × Nat} (hf : fieldOf i f = some q) {x : Value} {v : AV} (hx : RepV w p g (used fr.st) x v) {k : Ret α} {r : α}
    (hk : doFieldAddr fr q.1 v k = some r) :
    ∃ v' fp, k v' fr.st fp = some r ∧ Good B M w0 p0 w p g fr.st v' fr.st ((Instr.fieldAt t x f).run P w) := by
  unfold doFieldAddr at hk
  split at hk
  · rename_i b off
    obtain ⟨hu, β, hg, rfl⟩ := hx.ptr
    exact ⟨_, _, hk, Good.same h (run_fieldAt hi hf β off) (RepC.v (.ptr hu hg))⟩
  · rename_i cs
    have hr := hx.rptr
    cases hr with
    | rptr vs hc hr =>
      rename_i β off
      refine ⟨_, _, hk, Good.same h (run_fieldAt hi hf β off) (RepI.v (.rptr (fun j => vs (q.1 + j)) (fun j c hj => ?_) (fun j c hj => ?_)))⟩
      · rw [List.getElem?_drop] at hj
        have := hc _ c hj
        rw [Nat.add_assoc]
        exact this
      · rw [List.getElem?_drop] at hj
        exact hr _ c hj
  · rename_i b j sz off
    obtain ⟨hu, β, hg, rfl⟩ := hx.eptr
    refine ⟨_, _, hk, Good.same h (run_fieldAt hi hf β _) (RepC.v ?_)⟩
    rw [Nat.add_assoc]
    exact .eptr hu hg
  · cases hk
theorem sim_field {α : Type} {fr : Fr} {t f : Nat} {i fi : TI} (hi : mkTI P t = some i) (h : SInv B M w0 p0 w p g fr.st) {q : Nat × Nat} (hf : fieldOf i f = some q) (hfi : mkTI P q.2 = some fi) {x : Value} {v : AV} (hx : RepV w p g (used fr.st) x v) {k : Ret α} {r : α}
    (hk : (v.onAgg fun cs => loadCells fi (cs.drop q.1) fun v => k v fr.st .none) = some r) :
    ∃ v' fp, k v' fr.st fp = some r ∧ Good B M w0 p0 w p g fr.st v' fr.st ((Instr.field t x f).run P w) := by
  obtain ⟨cs, rfl, hk⟩ := onAgg_inv hk
  obtain ⟨arr, rfl, hc⟩ := hx.agg
  obtain ⟨info, z, a1, a2, a3, a4, a5, a6, a7, a8, a9, _⟩ := mkTI_info hi
  obtain ⟨info', z', b1, b2, b3, b4, b5, b6, b7, b8, b9, _⟩ := mkTI_info hfi
  unfold fieldOf at hf
  split at hf
  · rename_i fs hkd
    rw [hkd] at a8
    obtain ⟨fields, hu, hall, rfl⟩ := kind_struct a8
    rw [List.getElem?_map] at hf
    cases hq : fields.toList[f]? with
    | none => simp [hq] at hf
    | some fd =>
      simp [hq] at hf
      subst hf
      have hq' : fields[f]? = some fd := by simpa using hq
      unfold loadCells at hk
      obtain ⟨hble, hk⟩ := bif_inv hk
      have hle : fi.size ≤ (cs.drop fd.offset).length := Nat.le_of_ble_eq_true hble
      split at hk
      · rename_i hagg
        refine ⟨_, _, hk, Good.same h (v' := .agg (arr.extract fd.offset (fd.offset + info'.size))) ?_ ?_⟩
        · simp [Instr.field, run_underlying hu, hq', asAgg, part, run_isAgg b8, hagg, run_sizeOf b1]
        · refine .inr (.inl (.inr ⟨_, _, rfl, rfl, ?_⟩))
          have := (hc.drop fd.offset).take fi.size
          rw [← b2] at this ⊢
          have e : (arr.extract fd.offset (fd.offset + info'.size)).toList = (arr.toList.drop fd.offset).take info'.size := by
            simp [Array.toList_extract, List.extract_eq_take_drop]
          rw [e]
          exact this
      · rename_i hagg
        split at hk
        · rename_i c tl hcs
          obtain ⟨v, hv, hr⟩ := (hc.drop fd.offset).get (i := 0) (c := c) (by rw [hcs]; rfl)
          refine ⟨_, _, hk, Good.same h (v' := v) ?_ (RepC.v hr)⟩
          have hv' : arr[fd.offset]? = some v := by simpa using hv
          simp [Instr.field, run_underlying hu, hq', asAgg, part, run_isAgg b8, hagg, hv']
        · cases hk
  · cases hf
theorem cells_of_bs {x : Value} {l : List UInt8} (h : RepI w p x (.bs l)) : ∃ a len cap, x = .slice a len cap ∧ l.length = len ∧ len ≤ cap ∧ (len = 0 ∨ ∃ β off, a = some ⟨β, off, none⟩ ∧ ∀ i b, l[i]? = some b → off + i < p β ∧ w.cell? ⟨β, off + i, none⟩ = some (u8v b)) := by
  cases h with
  | bs β off hl hc ha h =>
    refine ⟨_, _, _, rfl, hl, hc, ?_⟩
    rcases ha with ha | ha
    · exact .inl ha
    · exact .inr ⟨β, off, ha, h⟩
theorem sim_indexAddr {α : Type} {E : Env} (hty : ∀ t i, E.ty t = some i → mkTI P t = some i) {fr : Fr} {t : Nat} {i : TI} (hi : mkTI P t = some i) (h : SInv B M w0 p0 w p g fr.st) {x y : Value} {v n : AV} (hx : RepV w p g (used fr.st) x v) (hy : RepV w p g (used fr.st) y n) {k : Ret α} {r : α}
    (hk : doIndexAddr E fr i v n k = some r) : ∃ v' fp, k v' fr.st fp = some r ∧ Good B M w0 p0 w p g fr.st v' fr.st ((Instr.indexAt t x y).run P w) := by
  obtain ⟨info, z, a1, a2, a3, a4, a5, a6, a7, a8, a9, _⟩ := mkTI_info hi
  unfold doIndexAddr at hk
  split at hk
  · -- bytes
    rename_i e v' n' m hkd hm
    rw [hkd] at a8
    obtain ⟨hu, hb⟩ := kind_slice a8
    obtain ⟨hue, ei, he1, he2, he3, he4⟩ := isU8_iff hb.symm
    obtain ⟨kd, rfl⟩ := idx_inv hy hm
    split at hk
    · rename_i l
      obtain ⟨hc, hk⟩ := chk_inv hk
      simp at hc
      obtain ⟨a, len, cap, rfl, hl, hcap, hbs⟩ := cells_of_bs hx.bs
      have hlt : m.toNat < l.length := by omega
      rcases hbs with h0 | ⟨β, off, rfl, hcell⟩
      · omega
      · refine ⟨_, _, hk, Good.same h (v' := .pointer (some ⟨β, off + m.toNat, none⟩)) ?_ (RepI.v (.rptr (fun _ => u8v (l.getD m.toNat 0)) (fun j c hj => ?_) (fun j c hj => ?_)))⟩
        · have hin : 0 ≤ m ∧ m < (len : Int) := ⟨hc.1, by rw [← hl]; exact hc.2⟩
          simp [Instr.indexAt, asIntOf, run_underlying hu, hin, run_sizeOf he1, he2, addr_add]
        · have : j = 0 := by have := (List.getElem?_eq_some_iff.1 hj).1; simp at this; exact this
          subst this
          have := hcell m.toNat (l.getD m.toNat 0) (by simp [hlt])
          exact this
        · have : j = 0 := by have := (List.getElem?_eq_some_iff.1 hj).1; simp at this; exact this
          subst this
          simp at hj
          subst hj
          simpa using RepI.u8
    · rename_i rr
      obtain ⟨hur, rfl, a, l0, c0, hgs⟩ := hx.row
      have hb := h.blk rr
      split at hk
      · rename_i e' l pub hst
        rw [hst] at hb
        obtain ⟨hc, hk⟩ := chk_inv hk
        simp at hc
        obtain ⟨⟨hlen, ⟨hn, a', hv⟩ | ⟨β', cap, cur, hv, h0, hB, hh, hnc, hcm, hcs, htake⟩⟩, hp⟩ := hb
        · omega
        · have hvb : vblk (g rr) = some β' := by rw [hv]; simp [vblk]; omega
          have hep := RepC.eptr (w := w) (p := p) (g := g) (u := used fr.st) (i := m.toNat) (sz := 1) (off := 0) (β := β') hur hvb
          refine ⟨_, _, hk, Good.same h (v' := .pointer (some ⟨β', m.toNat, none⟩)) ?_ (RepC.v (by simpa using hep))⟩
          have hin : 0 ≤ m ∧ m < (l.length : Int) := hc
          rw [hv]
          simp [Instr.indexAt, asIntOf, run_underlying hu, hin, run_sizeOf he1, he2, addr_add]
      · cases hk
    · cases hk
  · -- other elements
    rename_i e v' n' m hkd hm
    rw [hkd] at a8
    obtain ⟨hu, hb⟩ := kind_slice a8
    obtain ⟨kd, rfl⟩ := idx_inv hy hm
    split at hk
    · rename_i ei hei
      obtain ⟨info', z', b1, b2, b3, b4, b5, b6, b7, b8, b9, _⟩ := mkTI_info (hty _ _ hei)
      split at hk
      · rename_i z l
        obtain ⟨hc, hk2⟩ := chk_inv hk
        have hk3 := norm_inv hk2
        simp only [Bool.and_eq_true, decide_eq_true_eq] at hc
        have hz := Nat.eq_of_beq_eq_true hc.2
        subst hz
        have hlt : m.toNat < l.length := by omega
        have hrep := hx.sl
        cases hrep with
        | sl β off vs hl hcap hsz ha hcell hr =>
          rename_i a len cap
          rcases ha with ha | rfl
          · omega
          · have hel : l[m.toNat]? = some (l.getD m.toNat .undef) := by simp [hlt]
            refine ⟨_, _, hk3, Good.same h (v' := .pointer (some ⟨β, off + m.toNat * ei.size, none⟩)) ?_ (RepI.v (.rptr (fun j => vs (m.toNat * ei.size + j)) (fun j c hj => ?_) (fun j c hj => ?_)))⟩
            · have hin : 0 ≤ m ∧ m < (len : Int) := ⟨hc.1.1, by rw [← hl]; exact hc.1.2⟩
              simp [Instr.indexAt, asIntOf, run_underlying hu, hin, run_sizeOf b1, b2, addr_add]
            · have := hcell _ _ (flat_get hsz hel hj)
              rw [Nat.add_assoc]
              exact this
            · exact hr _ _ (flat_get hsz hel hj)
      · rename_i b offs
        obtain ⟨hc, hk2⟩ := chk_inv hk
        simp only [Bool.and_eq_true, decide_eq_true_eq] at hc
        have hz := Nat.eq_of_beq_eq_true hc.2
        obtain ⟨o, ho, hk3⟩ := pickP_inv hk2
        obtain ⟨hub, β, b', cap, hg, rfl, hcell⟩ := hx.psl
        obtain ⟨hp, hcl⟩ := hcell _ _ ho
        refine ⟨_, _, hk3, Good.same h (v' := .pointer (some ⟨β, m.toNat, none⟩)) ?_ (RepC.v (.pptr hub hg hp hcl))⟩
        have hin : 0 ≤ m ∧ m < (offs.length : Int) := hc.1
        simp [Instr.indexAt, asIntOf, run_underlying hu, hin, run_sizeOf b1, b2, addr_add, hz]
      · rename_i rr
        obtain ⟨hur, rfl, a, l0, c0, hgs⟩ := hx.row
        have hb := h.blk rr
        split at hk
        · rename_i e' z l pub hst
          rw [hst] at hb
          obtain ⟨hc, hk2⟩ := chk_inv hk
          simp only [Bool.and_eq_true, decide_eq_true_eq] at hc
          have hz := Nat.eq_of_beq_eq_true hc.2
          subst hz
          obtain ⟨hz0, hsz, vs, ⟨hlen, ⟨hn, a', hv⟩ | ⟨β', cap, cur, hv, h0, hB, hh, hnc, hcm, hcs, htake⟩⟩, hcells, hp⟩ := hb
          · omega
          · have hvb : vblk (g rr) = some β' := by rw [hv]; simp [vblk]; omega
            have hep := RepC.eptr (w := w) (p := p) (g := g) (u := used fr.st) (i := m.toNat) (sz := ei.size) (off := 0) (β := β') hur hvb
            refine ⟨_, _, hk2, Good.same h (v' := .pointer (some ⟨β', m.toNat * ei.size, none⟩)) ?_ (RepC.v hep)⟩
            have hin : 0 ≤ m ∧ m < (l.length : Int) := hc.1
            rw [hv]
            simp [Instr.indexAt, asIntOf, run_underlying hu, hin, run_sizeOf b1, b2, addr_add]
        · cases hk
      · cases hk
    · cases hk
  · -- an array of bytes
    rename_i len e b m hkd hm
    rw [hkd] at a8
    obtain ⟨hu, hb8⟩ := kind_arr a8
    obtain ⟨hue, ei, he1, he2, he3, he4⟩ := isU8_iff hb8.symm
    obtain ⟨kd, rfl⟩ := idx_inv hy hm
    obtain ⟨hub, β, hg, rfl⟩ := hx.ptr
    have hb := h.blk b
    split at hk
    · rename_i l pub hst
      rw [hst] at hb
      obtain ⟨hc, hk2⟩ := chk_inv hk
      simp only [Bool.and_eq_true, decide_eq_true_eq] at hc
      obtain ⟨⟨⟨hc1, hc2⟩, hc3⟩, hc4⟩ := hc
      have hlen := Nat.eq_of_beq_eq_true hc3
      have h1 : 1 < len := Nat.le_of_ble_eq_true hc4
      refine ⟨_, _, hk2, Good.same h (v' := .pointer (some ⟨β, m.toNat, none⟩)) ?_ ?_⟩
      · have hin : 0 ≤ m ∧ m < (len : Int) := ⟨hc1, by rw [← hlen]; exact hc2⟩
        simp [Instr.indexAt, asIntOf, run_underlying hu, hin, run_sizeOf he1, he2, addr_add, Instr.sureAddr]
      · have := RepC.eptr (w := w) (p := p) (g := g) (u := used fr.st) (i := m.toNat) (sz := 1) (off := 0) (β := β) hub (by rw [hg]; rfl)
        exact RepC.v (by simpa using this)
    · cases hk
  · -- another array
    rename_i len e b off m hkd hm
    rw [hkd] at a8
    obtain ⟨hu, hb8⟩ := kind_arr a8
    obtain ⟨kd, rfl⟩ := idx_inv hy hm
    obtain ⟨hub, β, hg, rfl⟩ := hx.ptr
    split at hk
    · rename_i ei hei
      obtain ⟨info', z', b1, b2, b3, b4, b5, b6, b7, b8, b9, _⟩ := mkTI_info (hty _ _ hei)
      obtain ⟨hc, hk2⟩ := chk_inv hk
      simp only [Bool.and_eq_true, decide_eq_true_eq] at hc
      obtain ⟨⟨hc1, hc2⟩, hc4⟩ := hc
      refine ⟨_, _, hk2, Good.same h (v' := .pointer (some ⟨β, off + m.toNat * ei.size, none⟩)) ?_ (RepC.v (.ptr hub hg))⟩
      have hin : 0 ≤ m ∧ m < (len : Int) := ⟨hc1, hc2⟩
      simp [Instr.indexAt, asIntOf, run_underlying hu, hin, run_sizeOf b1, b2, addr_add, Instr.sureAddr]
    · cases hk
  · -- an array that is only read
    rename_i len e cs m hkd hm
    rw [hkd] at a8
    obtain ⟨hu, hb8⟩ := kind_arr a8
    obtain ⟨kd, rfl⟩ := idx_inv hy hm
    have hrp := hx.rptr
    split at hk
    · rename_i ei hei
      obtain ⟨info', z', b1, b2, b3, b4, b5, b6, b7, b8, b9, _⟩ := mkTI_info (hty _ _ hei)
      obtain ⟨hc, hk1⟩ := chk_inv hk
      have hk2 := norm_inv hk1
      simp only [Bool.and_eq_true, decide_eq_true_eq] at hc
      obtain ⟨⟨⟨⟨hc1, hc2⟩, hc3⟩, hc4⟩, hc5⟩ := hc
      have hz := Nat.eq_of_beq_eq_true hc4
      have hlen : len ≤ cs.length := Nat.le_of_ble_eq_true hc5
      have hlt : m.toNat < cs.length := by omega
      have hel : cs[m.toNat]? = some (cs.getD m.toNat .undef) := by simp [hlt]
      cases hrp with
      | rptr vs hcell hr =>
        rename_i β off
        refine ⟨_, _, hk2, Good.same h (v' := .pointer (some ⟨β, off + m.toNat, none⟩)) ?_ (RepI.v (.rptr (fun j => vs (m.toNat + j)) (fun j c hj => ?_) (fun j c hj => ?_)))⟩
        · have hin : 0 ≤ m ∧ m < (len : Int) := ⟨hc1, hc2⟩
          simp [Instr.indexAt, asIntOf, run_underlying hu, hin, run_sizeOf b1, b2, addr_add, Instr.sureAddr, hz]
        · have : j = 0 := by have := (List.getElem?_eq_some_iff.1 hj).1; simp at this; exact this
          subst this
          exact hcell _ _ hel
        · have : j = 0 := by have := (List.getElem?_eq_some_iff.1 hj).1; simp at this; exact this
          subst this
          simp at hj
          subst hj
          exact hr _ _ hel
    · cases hk
  · cases hk
theorem sim_index {α : Type} {fr : Fr} {t : Nat} {i : TI} (hi : mkTI P t = some i) (h : SInv B M w0 p0 w p g fr.st) {x y : Value} {v n : AV} (hx : RepV w p g (used fr.st) x v) (hy : RepV w p g (used fr.st) y n) {k : Ret α} {r : α}
    (hk : doIndex fr i v n k = some r) : ∃ v' fp, k v' fr.st fp = some r ∧ Good B M w0 p0 w p g fr.st v' fr.st ((Instr.index t x y).run P w) := by
  obtain ⟨info, z, a1, a2, a3, a4, a5, a6, a7, a8, a9, _⟩ := mkTI_info hi
  unfold doIndex at hk
  split at hk
  · rename_i l m hkd hm
    rw [hkd] at a8
    have hu := kind_str a8
    obtain ⟨kd, rfl⟩ := idx_inv hy hm
    obtain ⟨s, rfl, rfl⟩ := hx.str
    obtain ⟨hc, hk2⟩ := chk_inv hk
    simp only [Bool.and_eq_true, decide_eq_true_eq] at hc
    have hlt : m.toNat < s.data.toList.length := by omega
    have hlt' : m.toNat < s.size := by simpa using hlt
    refine ⟨_, _, hk2, Good.same h (v' := u8v (s.data.toList.getD m.toNat 0)) ?_ (RepI.v .u8)⟩
    have hs : s[m.toNat]? = some (s.data.toList.getD m.toNat 0) := by
      rw [getElem?_pos s m.toNat hlt']
      congr 1
      simp only [List.getD_eq_getElem?_getD, List.getElem?_eq_getElem hlt, Option.getD_some]
      rfl
    simp [Instr.index, asIntOf, run_underlying hu, hc.1, hs, u8v]
  · cases hk
theorem sim_len {α : Type} {fr : Fr} {t ty : Nat} {i : TI} (hi : mkTI P t = some i) (h : SInv B M w0 p0 w p g fr.st) {x : Value} {v : AV} (hx : RepV w p g (used fr.st) x v) {k : Ret α} {r : α}
    (hk : doLen fr i v k = some r) : ∃ v' fp, k v' fr.st fp = some r ∧ Good B M w0 p0 w p g fr.st v' fr.st ((Builtin.len_ #[t] ty #[x]).run P w) := by
  obtain ⟨info, z, a1, a2, a3, a4, a5, a6, a7, a8, a9, _⟩ := mkTI_info hi
  unfold doLen at hk
  split at hk
  · rename_i hkd
    rw [hkd] at a8
    have hu := kind_str a8
    obtain ⟨l, rfl, hk2⟩ := onStr_inv hk
    obtain ⟨s, rfl, rfl⟩ := hx.str
    refine ⟨_, _, hk2, Good.same h (v' := .int .i64 s.data.toList.length) ?_ (RepI.v (.int (by simp)))⟩
    simp [Builtin.len_, run_underlying hu, goInt]
  · rename_i e bb hkd
    rw [hkd] at a8
    obtain ⟨hu, _⟩ := kind_slice a8
    have key : ∀ (a : Option Addr) (n c : Nat) (fp : FP), x = .slice a n c → k (.int .i64 n) fr.st fp = some r → ∃ v' fp, k v' fr.st fp = some r ∧ Good B M w0 p0 w p g fr.st v' fr.st ((Builtin.len_ #[t] ty #[x]).run P w) := by
      rintro a n c fp rfl hk2
      exact ⟨_, _, hk2, Good.same h (v' := .int .i64 n) (by simp [Builtin.len_, run_underlying hu, goInt]) (RepI.v (.int (by simp)))⟩
    unfold lenOf at hk
    split at hk
    · obtain ⟨a, len, cap, rfl, hl, _⟩ := cells_of_bs hx.bs
      rw [hl] at hk
      exact key a len cap _ rfl hk
    · have hr := hx.sl
      cases hr with
      | sl β off vs hl hcap hsz ha hcell hr =>
        rw [hl] at hk
        exact key _ _ _ _ rfl hk
    · obtain ⟨a, rfl⟩ := hx.nils
      exact key a 0 0 _ rfl hk
    · obtain ⟨_, β, b', cap, _, rfl, _⟩ := hx.psl
      exact key _ _ cap _ rfl hk
    · rename_i rr
      obtain ⟨hur, rfl, a, l0, c0, hgs⟩ := hx.row
      have hb := h.blk rr
      split at hk
      · rename_i e' l pub hst
        rw [hst] at hb
        obtain ⟨⟨hlen, ⟨hn, a', hv⟩ | ⟨β', cap, cur, hv, _⟩⟩, hp⟩ := hb
        · rw [hn] at hk; exact key _ _ _ _ hv hk
        · exact key _ _ _ _ hv hk
      · rename_i e' z l pub hst
        rw [hst] at hb
        obtain ⟨hz0, hsz, vs, ⟨hlen, ⟨hn, a', hv⟩ | ⟨β', cap, cur, hv, _⟩⟩, hcells, hp⟩ := hb
        · rw [hn] at hk; exact key _ _ _ _ hv hk
        · exact key _ _ _ _ hv hk
      · cases hk
    · cases hk
  · cases hk
theorem SInv.grow {st : Nat → Blk} (h : SInv B M w0 p0 w p g st) {w' : World} {p' : Prot} (hos : w'.os = w.os) (htape : w'.tape = w.tape) (hout : w'.output = w.output) (hsz : w.heap.size ≤ w'.heap.size)
    (hheap : ∀ β, β < w.heap.size → w'.heap[β]? = w.heap[β]? ∧ p' β = p β) (hnewp : ∀ β, w'.heap.size ≤ β → p' β = 0) :
    SInv B M w0 p0 w' p' g st ∧ Mono w p g (used st) w' p' g (used st) := by
  have hprot : ∀ β, p β ≤ p' β := fun β => by
    rcases Nat.lt_or_ge β w.heap.size with hlt | hge
    · rw [(hheap β hlt).2]; exact Nat.le_refl _
    · rw [h.newp β hge]; exact Nat.zero_le _
  have hcell : ∀ β i, i < p β → w'.cell? ⟨β, i, none⟩ = w.cell? ⟨β, i, none⟩ := fun β i hi => by
    rcases Nat.lt_or_ge β w.heap.size with hlt | hge
    · exact cell_same (hheap β hlt).1 i
    · rw [h.newp β hge] at hi; omega
  exact h.change hos htape hout hsz (fun _ => False) (fun _ => False) (fun _ _ => rfl) (fun _ hu => hu) (fun _ _ => rfl) (fun β hβ _ => hheap β hβ) (fun _ hd => hd.elim) hprot hcell hnewp (fun _ _ _ _ _ hd => hd.elim) (fun _ hd => hd.elim) (fun _ _ _ hd => hd.elim)
theorem bytesOf_inv {α : Type} {st : Nat → Blk} (h : SInv B M w0 p0 w p g st) {x : Value} {v : AV} (hx : RepV w p g (used st) x v) {k : List UInt8 → FP → Option α} {r : α} (hk : bytesOf st v k = some r) :
    ∃ l fp a len cap, k l fp = some r ∧ x = .slice a len cap ∧ l.length = len ∧ len ≤ cap ∧ (len = 0 ∨ ∃ β off, a = some ⟨β, off, none⟩ ∧ ∀ i b, l[i]? = some b → w.cell? ⟨β, off + i, none⟩ = some (u8v b)) := by
  unfold bytesOf at hk
  split at hk
  · obtain ⟨a, len, cap, rfl, hl, hc, hb⟩ := cells_of_bs hx.bs
    refine ⟨_, _, a, len, cap, hk, rfl, hl, hc, ?_⟩
    rcases hb with hb | ⟨β, off, ha, hb⟩
    · exact .inl hb
    · exact .inr ⟨β, off, ha, fun i b hi => (hb i b hi).2⟩
  · obtain ⟨a, rfl⟩ := hx.nils
    exact ⟨_, _, a, 0, 0, hk, rfl, rfl, Nat.le_refl _, .inl rfl⟩
  · rename_i rr
    obtain ⟨hur, rfl, a, l0, c0, hgs⟩ := hx.row
    have hb := h.blk rr
    split at hk
    · rename_i e' l pub hst
      rw [hst] at hb
      obtain ⟨⟨hlen, ⟨hn, a', hv⟩ | ⟨β', cap, cur, hv, h0, hB, hh, hnc, hcm, hcs, htake⟩⟩, hp⟩ := hb
      · exact ⟨l, _, a', 0, 0, hk, hv, hn, Nat.le_refl _, .inl rfl⟩
      · refine ⟨l, _, _, _, _, hk, hv, rfl, hnc, .inr ⟨β', 0, rfl, fun i b hi => ?_⟩⟩
        rw [cell_heap hh]
        have h1 : (l.map u8v)[i]? = some (u8v b) := by simp [hi]
        rw [← htake, List.getElem?_take] at h1
        split at h1
        · simpa using h1
        · cases h1
    · cases hk
  · cases hk
theorem raise_newp {n β : Nat} (h : ∀ β, w.heap.size ≤ β → p β = 0) {w' : World} (hs : w.heap.size < w'.heap.size) : ∀ β, w'.heap.size ≤ β → raise p (some w.heap.size) n β = 0 := fun β hβ => by
  rw [raise_ne (by simp; omega)]; exact h β (by omega)
theorem sim_convert {α : Type} {fr : Fr} {s d : Nat} {si di : TI} (hsi : mkTI P s = some si) (hdi : mkTI P d = some di) (h : SInv B M w0 p0 w p g fr.st) {x : Value} {v : AV} (hx : RepV w p g (used fr.st) x v) {k : Ret α} {r : α}
    (hk : doConvert fr si di v k = some r) : ∃ v' fp, k v' fr.st fp = some r ∧ Good B M w0 p0 w p g fr.st v' fr.st ((convert s d x).run P w) := by
  obtain ⟨info, z, a1, a2, a3, a4, a5, a6, a7, a8, a9, _⟩ := mkTI_info hsi
  obtain ⟨info', z', b1, b2, b3, b4, b5, b6, b7, b8, b9, _⟩ := mkTI_info hdi
  have hsu : ∃ du, P.underlying s = some du := by
    cases hu : P.underlying s with
    | some du => exact ⟨du, rfl⟩
    | none => simp [kindOf, hu] at a8
  obtain ⟨du, hsu⟩ := hsu
  unfold doConvert at hk
  split at hk
  · rename_i kd hkd
    rw [hkd] at b8
    obtain ⟨hd, hne⟩ := kind_int b8
    split at hk
    · rename_i n hn
      obtain ⟨k', rfl⟩ := idx_inv hx hn
      refine ⟨_, _, hk, Good.same h (v' := .int kd (kd.wrap n)) ?_ (RepI.v (.int hne))⟩
      simp [convert, run_underlying hsu, run_underlying hd, Conv.intToInt]
    · cases hk
  · rename_i hkd
    rw [hkd] at b8
    have hd := kind_u8 b8
    split at hk
    · rename_i n hn
      obtain ⟨k', rfl⟩ := idx_inv hx hn
      refine ⟨_, _, hk, Good.same h (v' := .int .u8 (IntKind.u8.wrap n)) ?_ (RepI.v (repI_mkInt fun _ => wrap_u8 n))⟩
      simp [convert, run_underlying hsu, run_underlying hd, Conv.intToInt]
    · cases hk
  · rename_i hkd
    rw [hkd] at b8
    have hd := kind_str b8
    split at hk
    · rename_i hks
      rw [hks] at a8
      obtain ⟨l, rfl, hk2⟩ := onStr_inv hk
      obtain ⟨str, rfl, hl⟩ := hx.str
      refine ⟨_, _, hk2, Good.same h (v' := .string str) ?_ (RepI.v (.str hl))⟩
      simp [convert, run_underlying (kind_str a8), run_underlying hd]
    · rename_i e hks
      rw [hks] at a8
      obtain ⟨hs, hb⟩ := kind_slice a8
      obtain ⟨he, _⟩ := isU8_iff hb.symm
      obtain ⟨l, fp, a, len, cap, hk2, rfl, hl, hcap, hc⟩ := bytesOf_inv h hx hk
      subst hl
      refine ⟨_, _, hk2, Good.same h (v' := .string ⟨l.toArray⟩) ?_ (RepI.v (.str (by simp)))⟩
      cases a with
      | none =>
        have hnil : l = [] := by
          rcases hc with hc | ⟨β, off, ha, _⟩
          · exact List.eq_nil_of_length_eq_zero hc
          · cases ha
        subst hnil
        rw [run_convert_bytes_string w s d e none _ cap hs he hd]
        rfl
      | some a =>
        refine run_convert_bytes_back w s d e a cap l hs he hd fun j hj => ?_
        rcases hc with hc | ⟨β, off, ha, hcell⟩
        · omega
        · cases ha
          rw [addr_add]
          exact hcell j _ (List.getElem?_eq_getElem hj)
    · cases hk
  · rename_i e hkd
    rw [hkd] at b8
    obtain ⟨hd, hb⟩ := kind_slice b8
    obtain ⟨he, _⟩ := isU8_iff hb.symm
    split at hk
    · rename_i hks
      rw [hks] at a8
      obtain ⟨l, rfl, hk2⟩ := onStr_inv hk
      obtain ⟨str, rfl, rfl⟩ := hx.str
      have hrun := run_bytes_of_string (P := P) w s d e str (kind_str a8) hd he
      refine ⟨_, _, hk2, ?_⟩
      have hle : str.size ≤ grownCap w str.size 0 e := grownCap_ge w _ _ _
      obtain ⟨hs, hm⟩ := h.grow (w' := w.drew.alloc (.cells (bytesRow str (grownCap w str.size 0 e)) e ((bytesRow str (grownCap w str.size 0 e)).size, (bytesRow str (grownCap w str.size 0 e)).size + 1))) (p' := raise p (some w.heap.size) str.size) rfl rfl rfl (by simp)
        (fun β hβ => ⟨heap_push_old w.drew _ hβ, raise_ne (by simp; omega)⟩) (raise_newp (β := 0) h.newp (by simp))
      refine ⟨_, _, _, g, hrun, hs, hm, RepI.v (.bs w.heap.size 0 (by simp) hle (.inr rfl) fun i b hi => ⟨?_, ?_⟩)⟩
      · rw [raise_same rfl]
        have := (List.getElem?_eq_some_iff.1 hi).1
        simpa using this
      · rw [cell_heap (w := w.drew.alloc _) (β := w.heap.size) (heap_push_new w.drew _)]
        have hi' : i < str.size := by have := (List.getElem?_eq_some_iff.1 hi).1; simpa using this
        have hb : str.data[i]? = some b := by simpa using hi
        have hi2 : i < str.data.size := hi'
        simp [bytesRow, Array.getElem?_append, u8v]
        rw [if_pos hi', hb]
        rfl
    · cases hk
  · cases hk
end
end Go.Abs
