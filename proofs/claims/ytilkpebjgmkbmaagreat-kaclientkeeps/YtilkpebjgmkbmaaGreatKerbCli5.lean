/- Clients that receive: lengths stay small. -/
import Derived.Test.YtilkpebjgmkbmaaGreatKerbCli4
namespace Kerb
open Go.Abs Go
set_option linter.unusedVariables false
def Client.fit (c : Client) : Prop := c.wanted.name.length ≤ 9223372036854775807 ∧ c.wanted.inst.length ≤ 9223372036854775807 ∧ c.wanted.realm.length ≤ 9223372036854775807
theorem noClient_fit : noClient.fit := by simp [Client.fit, noClient, noPrin]
theorem login_fit {c : Client} (h : c.good) (life now : Int) : (login c life now).c.fit := by
  unfold login
  repeat' split
  all_goals first | exact noClient_fit | skip
  obtain ⟨⟨_, _, h3⟩, _⟩ := h
  exact ⟨by simp [tgs], h3, h3⟩
theorem ask_fit {c : Client} {s : Prin} (hs : s.name.length ≤ 9223372036854775807 ∧ s.inst.length ≤ 9223372036854775807 ∧ s.realm.length ≤ 9223372036854775807) (life now tick : Int) : (ask c s life now tick).c.fit := by
  unfold ask
  simp only
  repeat' split
  all_goals first | exact noClient_fit | exact hs
theorem idle_good {c : Client} (h : c.good) : c.idle.good := h
theorem store_good {o : Prin} {cs : List Cred} {x : Cred} (ho : o.name.length ≤ 9223372036854775807 ∧ o.inst.length ≤ 9223372036854775807 ∧ o.realm.length ≤ 9223372036854775807) (h : ∀ y ∈ cs, y.ok) (hx : x.ok) :
    ((storeCred ⟨o, cs⟩ x).val.owner.name.length ≤ 9223372036854775807 ∧ (storeCred ⟨o, cs⟩ x).val.owner.inst.length ≤ 9223372036854775807 ∧ (storeCred ⟨o, cs⟩ x).val.owner.realm.length ≤ 9223372036854775807) ∧
    (∀ y ∈ (storeCred ⟨o, cs⟩ x).val.creds, y.ok) ∧ (storeCred ⟨o, cs⟩ x).val.creds.length ≤ 1000000 := by
  unfold storeCred
  split
  · simp [noCache, noPrin]
  split
  · simp [noCache, noPrin]
  split
  · simp [noCache, noPrin]
  · rename_i h3
    refine ⟨ho, ?_, ?_⟩
    · intro y hy
      simp only [List.mem_append, List.mem_filter, List.mem_singleton] at hy
      rcases hy with hy | rfl
      · exact h y hy.1
      · exact hx
    · simp only [List.length_append, List.length_singleton]
      simp only at h3
      omega
theorem receive_good {c : Client} (h : c.good) (k : Int) (msg : Bytes) (now : Int) : (receive c k msg now).c.good := by
  unfold receive
  split
  · exact h
  split
  · split
    · exact h
    · exact h
  split
  · exact h
  split
  · exact h
  split
  · exact h
  · obtain ⟨h1, h2, h3, h4⟩ := h
    obtain ⟨g1, g2, g3⟩ := store_good (o := c.cache.owner) (cs := c.cache.creds) (x := partCred (readRep c k msg).val) h2 h3 (readRep_ok c k msg).1
    exact ⟨h1, g1, g2, g3⟩
theorem raw_fit {m1 m2 m3 o1 o2 o3 w1 w2 w3 : Bytes} {ad sk : Int} {li : Bool} {ds : List Cred} {wt se tm lf cs tc : Int} {b : Bool}
    (hl : (b || (longP ⟨m1, m2, m3⟩ || (longP ⟨w1, w2, w3⟩ || longP ⟨o1, o2, o3⟩))) = false) : Client.fit ⟨⟨m1, m2, m3⟩, ad, sk, li, ⟨⟨o1, o2, o3⟩, ds⟩, wt, ⟨w1, w2, w3⟩, se, tm, lf, cs, tc⟩ := by
  simp only [Bool.or_eq_false_iff] at hl
  have := longP_len hl.2.2.1
  simp only at this
  exact ⟨by simp only; omega, by simp only; omega, by simp only; omega⟩
theorem pick2 {P : AV → Prop} {a b d : AV} {j : Nat} (hj : j < 2) (ha : P a) (hb : P b) : P (List.getD [a, b] (Int.toNat (j : Int)) d) := by
  rw [Int.toNat_natCast]
  match j, hj with
  | 0, _ => exact ha
  | 1, _ => exact hb
theorem pick2_client {a b : Client} {e : AV} {j : Nat} (hj : j < 2) (ha : a.good ∧ a.fit) (hb : b.good ∧ b.fit) : ∃ c : Client, List.getD [a.av, b.av] (Int.toNat (j : Int)) e = c.av ∧ c.good ∧ c.fit :=
  pick2 (P := fun v => ∃ c : Client, v = c.av ∧ c.good ∧ c.fit) hj ⟨a, rfl, ha⟩ ⟨b, rfl, hb⟩
theorem pick2_key {n m : Int} {e : AV} {j : Nat} (hj : j < 2) : ∃ q : Int, List.getD [.int .u64 n, .int .u64 m] (Int.toNat (j : Int)) e = .int .u64 q :=
  pick2 (P := fun v => ∃ q : Int, v = .int .u64 q) hj ⟨n, rfl⟩ ⟨m, rfl⟩
end Kerb
namespace Go.Abs
theorem bind_via {α β : Type} {x : Option α} {f : α → Option β} {r : Option β} (P : α → Prop) (h1 : ∃ a, x = some a ∧ P a) (h2 : ∀ a, P a → f a = r) : x.bind f = r := by
  obtain ⟨a, rfl, h⟩ := h1
  exact h2 a h
theorem bind_ex {α β : Type} {x : Option α} {f : α → Option β} {Q : β → Prop} (P : α → Prop) (h1 : ∃ a, x = some a ∧ P a) (h2 : ∀ a, P a → ∃ y, f a = some y ∧ Q y) : ∃ y, x.bind f = some y ∧ Q y := by
  obtain ⟨a, rfl, h⟩ := h1
  exact h2 a h
end Go.Abs
