/- Chapter 24: what clients receive, plain. -/
import Derived.Test.YtilkpebjgmkbmaaGreatKerbKac3
import Derived.Test.YtilkpebjgmkbmaaGreatKerbKac2
namespace Kerb
open Go Go.Abs
set_option linter.unusedVariables false
theorem kacAns_of {els : List AV} (h : els.all isKacAns = true) {x : AV} (hx : x ∈ els) : ∃ a : KacAns, x = a.av ∧ (0 ≤ a.start ∧ a.start ≤ 65535) ∧ (0 ≤ a.stop ∧ a.stop ≤ 65535) ∧ 0 ≤ a.how ∧ a.how ≤ 65535 := by
  have h2 := List.all_eq_true.1 h x hx
  unfold isKacAns at h2
  split at h2
  · rename_i a b c d e f g h i
    simp only [Bool.and_eq_true, decide_eq_true_eq] at h2
    exact ⟨⟨a, b, c, d, e, f, g, h, i⟩, rfl, ⟨h2.1.1.1.1.1, h2.1.1.1.1.2⟩, ⟨h2.1.1.1.2, h2.1.1.2⟩, h2.1.2, h2.2⟩
  · cases h2
theorem kaReply_len (r : KaReply) : (encodeKaReply r).val.length ≤ 2000 := by
  unfold encodeKaReply
  repeat' split
  all_goals first | simp; done | skip
  simp [putBox, kaHead, putN_len, header, isKind]
  omega
theorem kacText_len (a : KacAns) (w : KaWait) (k : Int) : (kacText a w k).length ≤ 140737488355328 := by
  unfold kacText
  have h := kaReply_len (kacReply a w k)
  have h2 := spoil_len (encodeKaReply (kacReply a w k)).val (IntKind.wrap .u16 (Int.tdiv a.how 16))
  cases Int.tmod a.how 16 == 15
  · simp only [cond_false]; omega
  · simp only [cond_true]; omega
def KaWait.fit (w : KaWait) : Prop := (w.service.name.length ≤ 9223372036854775807 ∧ w.service.inst.length ≤ 9223372036854775807 ∧ w.service.realm.length ≤ 9223372036854775807) ∧ 0 ≤ w.session ∧ w.session < 18446744073709551616
theorem noWait_fit : noWait.fit := by simp [KaWait.fit, noWait, noPrin]
theorem kaAuth_fit {c : Client} (h : c.good) (k life now : Int) : (kaAuth c k life now).w.fit := by
  unfold kaAuth
  repeat' split
  all_goals first | exact noWait_fit | skip
  obtain ⟨⟨_, _, h3⟩, _⟩ := h
  exact ⟨⟨by simp [tgs], h3, h3⟩, by simp, by simp⟩
theorem kaTicket_fit {c : Client} (h : c.good) {s : Prin} (hs : s.name.length ≤ 9223372036854775807 ∧ s.inst.length ≤ 9223372036854775807 ∧ s.realm.length ≤ 9223372036854775807) (life now : Int) : (kaTicket c s life now).w.fit := by
  unfold kaTicket
  simp only
  repeat' split
  all_goals first | exact noWait_fit | skip
  obtain ⟨_, _, _, k0, k1, _⟩ := live_ok h.2.2.1 (tgs c.me.realm c.me.realm) now
  exact ⟨hs, k0, k1⟩
theorem kaChange_fit (c : Client) (k fresh now : Int) : (kaChange c k fresh now).w.fit := by
  unfold kaChange
  simp only
  repeat' split
  all_goals first | exact noWait_fit | simp [KaWait.fit, noPrin]
def KaWait.av (w : KaWait) : AV := .agg [.int .i64 w.op, .int .i64 w.time, .int .i64 w.start, .int .i64 w.stop, .str w.service.name, .str w.service.inst, .str w.service.realm, .int .u64 w.session, .int .u64 w.new]
theorem pick3 {P : AV → Prop} {a b c d : AV} {j : Nat} (hj : j < 3) (ha : P a) (hb : P b) (hc : P c) : P (List.getD [a, b, c] (Int.toNat (j : Int)) d) := by
  rw [Int.toNat_natCast]
  match j, hj with
  | 0, _ => exact ha
  | 1, _ => exact hb
  | 2, _ => exact hc
theorem pick3_client {a b : Client} {e : AV} {j : Nat} (hj : j < 3) (ha : a.good) (hb : b.good) : ∃ c : Client, List.getD [a.av, b.av, a.av] (Int.toNat (j : Int)) e = c.av ∧ c.good :=
  pick3 (P := fun v => ∃ c : Client, v = c.av ∧ c.good) hj ⟨a, rfl, ha⟩ ⟨b, rfl, hb⟩ ⟨a, rfl, ha⟩
theorem pick3_wait {a b : KaWait} {e : AV} {j : Nat} (hj : j < 3) (ha : a.fit) (hb : b.fit) : ∃ c : KaWait, List.getD [a.av, a.av, b.av] (Int.toNat (j : Int)) e = c.av ∧ c.fit :=
  pick3 (P := fun v => ∃ c : KaWait, v = c.av ∧ c.fit) hj ⟨a, rfl, ha⟩ ⟨a, rfl, ha⟩ ⟨b, rfl, hb⟩
theorem pick3_key {n m : Int} {e : AV} {j : Nat} (hj : j < 3) : ∃ q : Int, List.getD [.int .u64 n, .int .u64 m, .int .u64 n] (Int.toNat (j : Int)) e = .int .u64 q :=
  pick3 (P := fun v => ∃ q : Int, v = .int .u64 q) hj ⟨n, rfl⟩ ⟨m, rfl⟩ ⟨n, rfl⟩
end Kerb
namespace Go.Abs
theorem sel_ex {α : Type} {b : Bool} {x y : Option α} {P : α → Prop} (hx : ∃ a, x = some a ∧ P a) (hy : ∃ a, y = some a ∧ P a) : ∃ a, sel b x y = some a ∧ P a := by
  cases b
  · exact hy
  · exact hx
end Go.Abs
