/- Clients: what the statements of chapter 20 lean on. -/
import Derived.Test.YtilkpebjgmkbmaaGreatKerbCli
namespace Kerb
open Go Go.Abs
set_option linter.unusedVariables false
theorem longP_len {p : Prin} (h : longP p = false) : p.name.length ≤ 100 ∧ p.inst.length ≤ 100 ∧ p.realm.length ≤ 100 := by
  unfold longP at h
  simp only [Bool.or_eq_false_iff, decide_eq_false_iff_not] at h
  omega
theorem raw_good {m1 m2 m3 o1 o2 o3 w1 w2 w3 : Bytes} {ad sk : Int} {li : Bool} {ds : List Cred} {wt se tm lf cs tc : Int} (hok : ∀ c ∈ ds, c.ok)
    (hl : (decide ((20 : Nat) < (ds.map Cred.av).length) || (longP ⟨m1, m2, m3⟩ || (longP ⟨w1, w2, w3⟩ || longP ⟨o1, o2, o3⟩))) = false) :
    Client.good ⟨⟨m1, m2, m3⟩, ad, sk, li, ⟨⟨o1, o2, o3⟩, ds⟩, wt, ⟨w1, w2, w3⟩, se, tm, lf, cs, tc⟩ := by
  simp only [Bool.or_eq_false_iff, decide_eq_false_iff_not, List.length_map] at hl
  obtain ⟨h1, h2, h3, h4⟩ := hl
  have g1 := longP_len h2
  have g2 := longP_len h4
  simp only at g1 g2
  exact ⟨by simp only; omega, by simp only; omega, hok, by simp only; omega⟩
theorem tmod2 (i : Nat) : Int.tmod (i : Int) 2 = ((i % 2 : Nat) : Int) := by rw [Int.tmod_eq_emod_of_nonneg (by omega)]; omega
theorem tdiv2 (i : Nat) : Int.tdiv (i : Int) 2 = ((i / 2 : Nat) : Int) := by rw [Int.tdiv_eq_ediv_of_nonneg (by omega)]; omega
theorem pick_mod {P : AV → Prop} {a b d : AV} {i : Nat} (ha : P a) (hb : P b) : P (List.getD [a, b] (Int.toNat (Int.tmod (i : Int) 2)) d) := by
  have e : Int.toNat (Int.tmod (i : Int) 2) = i % 2 := by rw [tmod2]; omega
  rw [e]
  rcases Nat.mod_two_eq_zero_or_one i with h | h <;> rw [h] <;> assumption
theorem pick_div {P : AV → Prop} {a b d : AV} {i : Nat} (hi : i < 4) (ha : P a) (hb : P b) : P (List.getD [a, b] (Int.toNat (IntKind.wrap .i64 (Int.tdiv (i : Int) 2))) d) := by
  have e : Int.toNat (IntKind.wrap .i64 (Int.tdiv (i : Int) 2)) = i / 2 := by rw [tdiv2, wrap_i64 (by omega) (by omega)]; omega
  rw [e]
  have : i / 2 = 0 ∨ i / 2 = 1 := by omega
  rcases this with h | h <;> rw [h] <;> assumption
theorem pick_client {a b d : Client} {e : AV} {i : Nat} (ha : a.good) (hb : b.good) : ∃ c : Client, List.getD [a.av, b.av] (Int.toNat (Int.tmod (i : Int) 2)) e = c.av ∧ c.good :=
  pick_mod (P := fun v => ∃ c : Client, v = c.av ∧ c.good) ⟨a, rfl, ha⟩ ⟨b, rfl, hb⟩
theorem pick_int {n m : Int} {e : AV} {i : Nat} (hi : i < 4) : ∃ q : Int, List.getD [.int .i64 n, .int .i64 m] (Int.toNat (IntKind.wrap .i64 (Int.tdiv (i : Int) 2))) e = .int .i64 q :=
  pick_div (P := fun v => ∃ q : Int, v = .int .i64 q) hi ⟨n, rfl⟩ ⟨m, rfl⟩
theorem pick_prin {a1 a2 a3 b1 b2 b3 : Bytes} {e : AV} {i : Nat} (hi : i < 4) (ha : a1.length ≤ 100 ∧ a2.length ≤ 100 ∧ a3.length ≤ 100) (hb : b1.length ≤ 100 ∧ b2.length ≤ 100 ∧ b3.length ≤ 100) :
    ∃ c1 c2 c3 : Bytes, List.getD [.agg [.str a1, .str a2, .str a3], .agg [.str b1, .str b2, .str b3]] (Int.toNat (IntKind.wrap .i64 (Int.tdiv (i : Int) 2))) e = .agg [.str c1, .str c2, .str c3] ∧ c1.length ≤ 9223372036854775807 ∧ c2.length ≤ 9223372036854775807 ∧ c3.length ≤ 9223372036854775807 :=
  pick_div (P := fun v => ∃ c1 c2 c3 : Bytes, v = .agg [.str c1, .str c2, .str c3] ∧ c1.length ≤ 9223372036854775807 ∧ c2.length ≤ 9223372036854775807 ∧ c3.length ≤ 9223372036854775807) hi
    ⟨a1, a2, a3, rfl, by omega, by omega, by omega⟩ ⟨b1, b2, b3, rfl, by omega, by omega, by omega⟩
theorem pick_len {a b : AV} {i : Nat} (hi : i < 4) : (decide ((0 : Int) ≤ IntKind.wrap .i64 (Int.tdiv (i : Int) 2)) && decide (IntKind.wrap .i64 (Int.tdiv (i : Int) 2) < (([a, b].length : Nat) : Int)) && true) = true := by
  rw [tdiv2, wrap_i64 (by omega) (by omega)]
  simp; omega
theorem pick_lenm {a b : AV} {i : Nat} : (decide ((0 : Int) ≤ Int.tmod (i : Int) 2) && decide (Int.tmod (i : Int) 2 < (([a, b].length : Nat) : Int)) && true) = true := by
  rw [tmod2]
  simp; omega
theorem good_lenT {c : Client} (h : c.good) : decide ((c.cache.creds.map Cred.av).length ≤ 1000000) = true := by simpa using h.2.2.2
end Kerb
