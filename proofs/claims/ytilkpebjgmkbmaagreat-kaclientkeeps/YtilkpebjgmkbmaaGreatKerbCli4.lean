/- Chapter 20: clients stay without an error. -/
import Derived.Test.YtilkpebjgmkbmaaGreatKerbCli3
namespace Kerb
open Go Go.Abs
set_option linter.unusedVariables false
theorem Prin.eqb_iff {p q : Prin} : p.eqb q = true ↔ p = q := by
  constructor
  · intro h
    obtain ⟨a, b, c⟩ := p
    obtain ⟨d, e, f⟩ := q
    simp only [Prin.eqb, Bool.and_eq_true, beq_iff_eq] at h
    obtain ⟨rfl, rfl, rfl⟩ := h
    rfl
  · rintro rfl; exact Prin.eqb_refl p
theorem Prin.eqb_false {p q : Prin} : p.eqb q = false ↔ p ≠ q := by
  rw [← Bool.not_eq_true, Prin.eqb_iff]
instance : DecidableEq Prin := fun p q => if h : p.eqb q = true then isTrue (Prin.eqb_iff.1 h) else isFalse fun g => h (Prin.eqb_iff.2 g)
theorem credsErr_iff : ∀ {seen cs : List Cred}, credsErr seen cs = 0 ↔ (∀ c ∈ cs, credErr c = 0) ∧ (∀ c ∈ cs, ∀ d ∈ seen, d.service ≠ c.service) ∧ cs.Pairwise (fun a b => a.service ≠ b.service)
  | seen, [] => by simp [credsErr]
  | seen, c :: r => by
    have ih := credsErr_iff (seen := seen ++ [c]) (cs := r)
    rw [credsErr]
    by_cases h1 : credErr c = 0
    case neg =>
      rw [if_pos h1]
      exact ⟨fun h => absurd h h1, fun h => absurd (h.1 c (List.mem_cons_self ..)) h1⟩
    rw [if_neg (by simpa using h1)]
    by_cases h2 : seen.any (fun d => d.service.eqb c.service) = true
    · rw [if_pos h2]
      constructor
      · intro h; cases h
      · intro h
        rw [List.any_eq_true] at h2
        obtain ⟨d, hd, he⟩ := h2
        exact absurd (Prin.eqb_iff.1 he) (h.2.1 c (List.mem_cons_self ..) d hd)
    · rw [if_neg h2, ih]
      have h3 : ∀ d ∈ seen, d.service ≠ c.service := fun d hd he => h2 (List.any_eq_true.2 ⟨d, hd, Prin.eqb_iff.2 he⟩)
      constructor
      · rintro ⟨a, b, p⟩
        refine ⟨?_, ?_, ?_⟩
        · intro x hx
          rcases List.mem_cons.1 hx with rfl | hx
          · exact h1
          · exact a x hx
        · intro x hx d hd
          rcases List.mem_cons.1 hx with rfl | hx
          · exact h3 d hd
          · exact b x hx d (List.mem_append_left _ hd)
        · exact List.pairwise_cons.2 ⟨fun x hx => b x hx c (List.mem_append_right _ (List.mem_singleton.2 rfl)), p⟩
      · rintro ⟨a, b, p⟩
        have p' := List.pairwise_cons.1 p
        refine ⟨fun x hx => a x (List.mem_cons_of_mem _ hx), ?_, p'.2⟩
        intro x hx d hd
        rcases List.mem_append.1 hd with hd | hd
        · exact b x (List.mem_cons_of_mem _ hx) d hd
        · rw [List.mem_singleton.1 hd]; exact p'.1 x hx
theorem cacheErr_iff {c : Cache} : c.err = 0 ↔ c.owner.valid = true ∧ c.creds.length ≤ 20 ∧ credsErr [] c.creds = 0 := by
  unfold Cache.err
  cases h : c.owner.valid
  · simp
  by_cases h2 : 20 < c.creds.length
  · simp [h2]; omega
  · simp [h2]; intro _; omega
theorem store_keeps {c : Cache} {x : Cred} (h : (storeCred c x).err = 0) : (storeCred c x).val.err = 0 ∧ (storeCred c x).val.owner = c.owner ∧ ∃ l, (storeCred c x).val.creds = l ++ [x] ∧ (∀ d ∈ l, d ∈ c.creds) ∧ l.length < 20 := by
  by_cases h1 : c.err = 0
  case neg => rw [store_of rfl rfl, if_pos h1] at h; exact absurd h h1
  by_cases h2 : Cache.err ⟨c.owner, [x]⟩ = 0
  case neg => rw [store_of rfl rfl, if_neg (by simpa using h1), if_pos h2] at h; exact absurd h h2
  by_cases h3 : 20 ≤ (c.creds.filter fun d => !d.service.eqb x.service).length
  · rw [store_of rfl rfl, if_neg (by simpa using h1), if_neg (by simpa using h2), if_pos h3] at h; cases h
  rw [store_of rfl rfl, if_neg (by simpa using h1), if_neg (by simpa using h2), if_neg h3]
  have g1 := cacheErr_iff.1 h1
  have g2 := cacheErr_iff.1 h2
  have i1 := credsErr_iff.1 g1.2.2
  have i2 := credsErr_iff.1 g2.2.2
  refine ⟨?_, rfl, _, rfl, fun d hd => (List.mem_filter.1 hd).1, by omega⟩
  refine cacheErr_iff.2 ⟨g1.1, by simp only [List.length_append, List.length_singleton]; omega, credsErr_iff.2 ⟨?_, fun _ _ _ hd => (by cases hd), ?_⟩⟩
  · intro d hd
    rcases List.mem_append.1 hd with hd | hd
    · exact i1.1 d (List.mem_filter.1 hd).1
    · exact i2.1 d hd
  · refine List.pairwise_append.2 ⟨i1.2.2.filter _, i2.2.2, fun a ha b hb => ?_⟩
    rw [List.mem_singleton.1 hb]
    have := (List.mem_filter.1 ha).2
    exact Prin.eqb_false.1 (by simpa using this)
theorem clientErr_iff {c : Client} : c.err = 0 ↔ c.me.valid = true ∧ (within c.address 4294967295 && within c.skew 4294967295) = true ∧ (0 ≤ c.wait ∧ c.wait ≤ 3) ∧ c.cache.err = 0 ∧ c.cache.owner = c.me := by
  unfold Client.err
  cases h : c.me.valid
  · simp
  cases h1 : (within c.address 4294967295 && within c.skew 4294967295)
  · simp
  by_cases h2 : 0 ≤ c.wait ∧ c.wait ≤ 3
  case neg =>
    rw [if_neg (by simp), if_neg (by simp), if_pos (by simp; omega)]
    simp [h2]
  by_cases h3 : c.cache.err = 0
  case neg => simp [h2, h3]
  cases h4 : c.cache.owner.eqb c.me
  · have := Prin.eqb_false.1 h4
    simp [h2, h3, this]
  · have := Prin.eqb_iff.1 h4
    simp [h2, h3, this]
theorem idle_err {c : Client} (h : c.err = 0) : c.idle.err = 0 := by
  have := clientErr_iff.1 h
  exact clientErr_iff.2 ⟨this.1, this.2.1, ⟨show (0 : Int) ≤ 0 by decide, show (0 : Int) ≤ 3 by decide⟩, this.2.2.2⟩
theorem encodeError_code {r : ErrorReply} (h : (encodeError r).err = 0) : 1 ≤ r.code := by
  unfold encodeError at h
  split at h
  · cases h
  split at h
  · cases h
  rename_i h2
  simp at h2
  omega
theorem decodeError_code {b : Bytes} (h : (decodeError b).err = 0) : 1 ≤ (decodeError b).val.code := by
  unfold decodeError at h ⊢
  split at h
  · rename_i g; exact absurd h g
  split at h
  · cases h
  rename_i h1 h2
  rw [if_neg h1, if_neg h2]
  exact encodeError_code (Decidable.byContradiction fun g => h2 (.inl g))
theorem readRep_service {c : Client} {k : Int} {msg : Bytes} (h : (readRep c k msg).err = 0) : (readRep c k msg).val.service = c.wanted := by
  unfold readRep at h ⊢
  split at h
  · rename_i g; exact absurd h g
  split at h
  · cases h
  split at h
  · cases h
  split at h
  · cases h
  split at h
  · cases h
  rename_i h1 h2 h3 h4 h5
  rw [if_neg h1, if_neg h2, if_neg h3, if_neg h4, if_neg h5]
  exact Prin.eqb_iff.1 (by
    cases hx : Prin.eqb (decodePart (openBox (decodeReply msg).val.sealed 3 (repKey c k)).1 (decodeReply msg).val.little).val.service c.wanted
    · exact absurd (.inr hx) h5
    · rfl)
theorem receive_keeps {c : Client} (hc : c.err = 0) (hg : c.good) (k : Int) (msg : Bytes) (now : Int) :
    (receive c k msg now).c.me = c.me ∧ (receive c k msg now).c.address = c.address ∧ (receive c k msg now).c.skew = c.skew ∧ (receive c k msg now).c.little = c.little ∧ (receive c k msg now).c.err = 0 ∧ (receive c k msg now).c.good ∧
    ((receive c k msg now).err = 0 → (receive c k msg now).cred.service = c.wanted ∧ (receive c k msg now).c.wait = 0) ∧
    ((receive c k msg now).err ≠ 0 → (receive c k msg now).c.cache = c.cache ∧ ((receive c k msg now).c.wait = 0 ∨ (receive c k msg now).c = c)) := by
  have same : ∀ (x : Cred) (e : Int), e ≠ 0 → ∀ r : Rcv, r = ⟨c, x, e⟩ → (r.c.me = c.me ∧ r.c.address = c.address ∧ r.c.skew = c.skew ∧ r.c.little = c.little ∧ r.c.err = 0 ∧ r.c.good ∧ (r.err = 0 → r.cred.service = c.wanted ∧ r.c.wait = 0) ∧ (r.err ≠ 0 → r.c.cache = c.cache ∧ (r.c.wait = 0 ∨ r.c = c))) := by
    rintro x e he _ rfl
    exact ⟨rfl, rfl, rfl, rfl, hc, hg, fun h => absurd h he, fun _ => ⟨rfl, .inr rfl⟩⟩
  by_cases h1 : c.err ≠ 0 ∨ (c.wait ≠ 1 ∧ c.wait ≠ 2)
  · exact same noCred 108 (by decide) _ (by unfold receive; rw [if_pos h1])
  by_cases h2 : (decodeError msg).err = 0
  · by_cases h3 : (decodeError msg).val.client.eqb c.me = false
    · exact same noCred 63 (by decide) _ (by unfold receive; rw [if_neg h1, if_pos h2, if_pos h3])
    · have hr : receive c k msg now = ⟨c.idle, noCred, (decodeError msg).val.code⟩ := by unfold receive; rw [if_neg h1, if_pos h2, if_neg h3]
      rw [hr]
      have := decodeError_code h2
      exact ⟨rfl, rfl, rfl, rfl, idle_err hc, hg, fun h => by simp only at h; omega, fun _ => ⟨rfl, .inl rfl⟩⟩
  by_cases h3 : (readRep c k msg).err = 0
  case neg => exact same noCred _ h3 _ (by unfold receive; rw [if_neg h1, if_neg h2, if_pos h3])
  by_cases h4 : near (readRep c k msg).val.time now c.skew = false
  · exact same noCred 37 (by decide) _ (by unfold receive; rw [if_neg h1, if_neg h2, if_neg (by simpa using h3), if_pos h4])
  by_cases h5 : (storeCred c.cache (partCred (readRep c k msg).val)).err = 0
  case neg => exact same noCred _ h5 _ (by unfold receive; rw [if_neg h1, if_neg h2, if_neg (by simpa using h3), if_neg h4, if_pos h5])
  have hr : receive c k msg now = ⟨{ c.idle with cache := (storeCred c.cache (partCred (readRep c k msg).val)).val }, partCred (readRep c k msg).val, 0⟩ := by
    unfold receive; rw [if_neg h1, if_neg h2, if_neg (by simpa using h3), if_neg h4, if_neg (by simpa using h5)]
  rw [hr]
  have hs := readRep_service h3
  have ho := (readRep_ok c k msg).1
  obtain ⟨s1, s2, l, s3, s4, s5⟩ := store_keeps h5
  have hi := clientErr_iff.1 hc
  refine ⟨rfl, rfl, rfl, rfl, clientErr_iff.2 ⟨hi.1, hi.2.1, ⟨show (0 : Int) ≤ 0 by decide, show (0 : Int) ≤ 3 by decide⟩, s1, s2.trans hi.2.2.2.2⟩, ?_, fun _ => ⟨hs, rfl⟩, fun h => absurd rfl h⟩
  refine ⟨hg.1, ?_, ?_, ?_⟩
  · show (storeCred c.cache (partCred (readRep c k msg).val)).val.owner.name.length ≤ _ ∧ _
    rw [s2]; exact hg.2.1
  · intro x hx
    have hx : x ∈ (storeCred c.cache (partCred (readRep c k msg).val)).val.creds := hx
    rw [s3] at hx
    rcases List.mem_append.1 hx with hx | hx
    · exact hg.2.2.1 x (s4 x hx)
    · rw [List.mem_singleton.1 hx]; exact ho
  · show (storeCred c.cache (partCred (readRep c k msg).val)).val.creds.length ≤ _
    rw [s3]; simp; omega
theorem nodup_le {α : Type} [DecidableEq α] : ∀ {l m : List α}, l.Pairwise (· ≠ ·) → (∀ x ∈ l, x ∈ m) → l.length ≤ m.length
  | [], m, _, _ => Nat.zero_le _
  | x :: r, m, hp, hs => by
    have hp := List.pairwise_cons.1 hp
    have hx := hs x (List.mem_cons_self ..)
    have ih := nodup_le (l := r) (m := m.erase x) hp.2 (fun y hy => (List.mem_erase_of_ne (hp.1 y hy).symm).2 (hs y (List.mem_cons_of_mem _ hy)))
    rw [List.length_erase_of_mem hx] at ih
    have := List.length_pos_of_mem hx
    simp only [List.length_cons]
    omega
def services : List Prin := [service 0, service 1, service 2, service 3, service 4, service 5, service 6, service 7, service 8]
theorem below9 {n : Int} (h0 : 0 ≤ n) (h1 : n < 9) : n = 0 ∨ n = 1 ∨ n = 2 ∨ n = 3 ∨ n = 4 ∨ n = 5 ∨ n = 6 ∨ n = 7 ∨ n = 8 := by omega
theorem service_mem {n : Int} (h0 : 0 ≤ n) (h1 : n < 9) : service n ∈ services := by
  rcases below9 h0 h1 with rfl | rfl | rfl | rfl | rfl | rfl | rfl | rfl | rfl <;> simp [services]
theorem service_valid {n : Int} (h0 : 0 ≤ n) (h1 : n < 9) : (service n).valid = true := by
  rcases below9 h0 h1 with rfl | rfl | rfl | rfl | rfl | rfl | rfl | rfl | rfl <;> decide +kernel
theorem session_valid {n : Int} (h0 : 0 ≤ n) (h1 : n < 9) : keyValid (session n) = true := by
  rcases below9 h0 h1 with rfl | rfl | rfl | rfl | rfl | rfl | rfl | rfl | rfl <;> decide +kernel
theorem user_valid (n : Int) : (user n).valid = true := by
  unfold user realm
  split
  · split
    · decide +kernel
    split <;> decide +kernel
  split
  · split
    · decide +kernel
    split <;> decide +kernel
  · split
    · decide +kernel
    split <;> decide +kernel
theorem next_in9 (l : Bytes) (p : Int) : 0 ≤ next l p 9 ∧ next l p 9 < 9 := by
  have := next_bd l p 9; omega
theorem tick_len (l : Bytes) : ∀ (n : Nat) (i p : Int) (t : Bytes), (t.length : Int) ≤ i → i ≤ 30 → ((tickLoop l n i p t).1.length : Int) ≤ 30
  | 0, i, p, t, h, h2 => by simp only [tickLoop]; omega
  | n + 1, i, p, t, h, h2 => by
    rw [tickLoop]
    split
    · rename_i g
      have b := next_bd l p 30
      exact tick_len l n _ _ _ (by simp; omega) (by omega)
    · simp only; omega
theorem dataCred_err (l : Bytes) (p : Int) : credErr (dataCred l p) = 0 := by
  have h1 := next_in9 l p
  have h2 := next_in9 l (cp1 l p)
  have h3 := next_bd l (cp2 l p) 256
  have h4 := next_bd l (cp3 l p) 256
  have h5 := next_bd l (cp4 l p) 256
  have h6 : ((dataTick l p).1.length : Int) ≤ 30 := tick_len l _ 0 _ [] (by simp) (by decide)
  unfold credErr
  have w1 : within (dataCred l p).life 255 = true := within_iff.2 ⟨by show 0 ≤ next l (cp2 l p) 256; omega, by show next l (cp2 l p) 256 ≤ 255; omega⟩
  have w2 : within (dataCred l p).kvno 255 = true := within_iff.2 ⟨by show 0 ≤ next l (cp3 l p) 256; omega, by show next l (cp3 l p) 256 ≤ 255; omega⟩
  have w3 : within (dataCred l p).issued 4294967295 = true := within_iff.2 ⟨by show 0 ≤ next l (cp4 l p) 256 * 100; omega, by show next l (cp4 l p) 256 * 100 ≤ _; omega⟩
  rw [show (dataCred l p).service.valid = true from service_valid h1.1 h1.2, show keyValid (dataCred l p).session = true from session_valid h2.1 h2.2, w1, w2, w3]
  have h7 : ¬ 255 < (dataCred l p).ticket.length := by show ¬ 255 < (dataTick l p).1.length; omega
  simp [h7]
theorem cacheLoop_err (l : Bytes) : ∀ (n : Nat) (p : Int) (cs : List Cred), (∀ c ∈ cs, credErr c = 0) ∧ cs.Pairwise (fun a b => a.service ≠ b.service) ∧ (∀ c ∈ cs, c.service ∈ services) →
    (∀ c ∈ cacheLoop l n p cs, credErr c = 0) ∧ (cacheLoop l n p cs).Pairwise (fun a b => a.service ≠ b.service) ∧ (∀ c ∈ cacheLoop l n p cs, c.service ∈ services)
  | 0, p, cs, h => h
  | n + 1, p, cs, h => by
    rw [cacheLoop]
    split
    · split
      · exact cacheLoop_err l n _ _ h
      · rename_i g
        refine cacheLoop_err l n _ _ ⟨?_, ?_, ?_⟩
        · intro c hc
          rcases List.mem_append.1 hc with hc | hc
          · exact h.1 c hc
          · rw [List.mem_singleton.1 hc]; exact dataCred_err l p
        · refine List.pairwise_append.2 ⟨h.2.1, List.pairwise_singleton _ _, fun a ha b hb => ?_⟩
          rw [List.mem_singleton.1 hb]
          exact fun he => g (List.any_eq_true.2 ⟨a, ha, Prin.eqb_iff.2 he⟩)
        · intro c hc
          rcases List.mem_append.1 hc with hc | hc
          · exact h.2.2 c hc
          · rw [List.mem_singleton.1 hc]
            have := next_in9 l p
            exact service_mem this.1 this.2
    · exact h
theorem dataCache_err (l : Bytes) (n : Int) : (dataCache l n).err = 0 := by
  have h := cacheLoop_err l (l.length + 1) 0 [] ⟨fun _ h => (by cases h), List.Pairwise.nil, fun _ h => (by cases h)⟩
  refine cacheErr_iff.2 ⟨user_valid n, ?_, credsErr_iff.2 ⟨h.1, fun _ _ _ hd => (by cases hd), h.2.1⟩⟩
  have := nodup_le (l := (cacheLoop l (l.length + 1) 0 []).map (·.service)) (m := services) (List.pairwise_map.2 h.2.1) (fun x hx => by
    obtain ⟨c, hc, rfl⟩ := List.mem_map.1 hx
    exact h.2.2 c hc)
  simp only [List.length_map] at this
  have e : services.length = 9 := rfl
  show (cacheLoop l (l.length + 1) 0 []).length ≤ 20
  omega
theorem person_is (who skew : UInt8) (little : Bool) (l : Bytes) : personClient who skew little l = ⟨user (u8i who), u8i who, u8i skew * 4, little, dataCache (l.take 300) (u8i who), 0, noPrin, 0, 0, 0, 0, 0⟩ := by
  have h1 := u8i_bd who
  have h2 := u8i_bd skew
  unfold personClient newClient
  rw [user_valid, within_iff.2 (show 0 ≤ u8i who ∧ u8i who ≤ 4294967295 by omega), within_iff.2 (show 0 ≤ u8i skew * 4 ∧ u8i skew * 4 ≤ 4294967295 by omega)]
  rfl
theorem person_err (who skew : UInt8) (little : Bool) (l : Bytes) : (personClient who skew little l).err = 0 := by
  have h1 := u8i_bd who
  have h2 := u8i_bd skew
  rw [person_is]
  refine clientErr_iff.2 ⟨user_valid _, ?_, ⟨show (0 : Int) ≤ 0 by decide, show (0 : Int) ≤ 3 by decide⟩, dataCache_err _ _, rfl⟩
  show (within (u8i who) 4294967295 && within (u8i skew * 4) 4294967295) = true
  rw [within_iff.2 (show 0 ≤ u8i who ∧ u8i who ≤ 4294967295 by omega), within_iff.2 (show 0 ≤ u8i skew * 4 ∧ u8i skew * 4 ≤ 4294967295 by omega)]
  rfl
theorem login_err {c : Client} (h : c.err = 0) {life now : Int} (hl : within life 255 = true) (hn : within now 4294967295 = true) :
    (login c life now).err = 0 ∧ (login c life now).c = { c.idle with wait := 1, wanted := tgs c.me.realm c.me.realm, time := now, life := life } := by
  have hv := (clientErr_iff.1 h).1
  have hr : validRealm c.me.realm = true := by
    unfold Prin.valid at hv
    simp only [Bool.and_eq_true] at hv
    exact hv.2
  have he : (encodeRequest ⟨c.little, c.me, now, life, (tgs c.me.realm c.me.realm).name, (tgs c.me.realm c.me.realm).inst⟩).err = 0 := by
    unfold encodeRequest
    have h1 : validName (tgs c.me.realm c.me.realm).name = true := by
      show validName [107, 114, 98, 116, 103, 116] = true
      decide +kernel
    have h2 : validInst (tgs c.me.realm c.me.realm).inst = true := by
      unfold validRealm at hr
      simp only [Bool.and_eq_true] at hr
      exact hr.2
    simp only [hv, h1, h2, hl, hn, Bool.and_self, Bool.not_true, Bool.false_eq_true, if_false]
  unfold login
  rw [if_neg (by simpa using h), if_neg (by simp [hl, hn]), if_neg (by simpa using he)]
  exact ⟨rfl, rfl⟩
theorem login_cerr {c : Client} (h : c.err = 0) {life now : Int} (hl : within life 255 = true) (hn : within now 4294967295 = true) : (login c life now).c.err = 0 := by
  rw [(login_err h hl hn).2]
  have i := clientErr_iff.1 h
  exact clientErr_iff.2 ⟨i.1, i.2.1, ⟨show (0 : Int) ≤ 1 by decide, show (1 : Int) ≤ 3 by decide⟩, i.2.2.2⟩
theorem login_wanted {c : Client} (h : c.err = 0) (hg : c.good) {life now : Int} (hl : within life 255 = true) (hn : within now 4294967295 = true) :
    (login c life now).c.wanted.name.length ≤ 9223372036854775807 ∧ (login c life now).c.wanted.inst.length ≤ 9223372036854775807 ∧ (login c life now).c.wanted.realm.length ≤ 9223372036854775807 := by
  rw [(login_err h hl hn).2]
  exact ⟨by show (6 : Nat) ≤ _; omega, hg.1.2.2, hg.1.2.2⟩
theorem ans_of {els : List AV} (h : els.all isAns = true) {x : AV} (hx : x ∈ els) : ∃ a : Ans, x = a.av ∧ 0 ≤ a.how ∧ a.how ≤ 65535 := by
  have := List.all_eq_true.1 h x hx
  unfold isAns at this
  split at this
  · rename_i a b c d e l s w
    simp only [Bool.and_eq_true, decide_eq_true_eq] at this
    exact ⟨⟨a, b, c, d, e, l, s, w⟩, rfl, this.1, this.2⟩
  · cases this
theorem getD_mem {els : List AV} {i : Nat} (h : i < els.length) : els.getD i .undef ∈ els := by simp [List.getD_eq_getElem?_getD, h]
theorem Cache.same_refl (c : Cache) : c.same c = true := by simp [Cache.same, Prin.eqb_refl, sameCreds_refl]
end Kerb
