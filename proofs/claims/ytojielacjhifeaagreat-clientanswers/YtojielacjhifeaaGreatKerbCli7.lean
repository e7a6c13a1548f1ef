/- Chapter 20: a client that waits for an answer gets it. -/
import Derived.Test.YtojielacjhifeaaGreatKerbCli5
import Derived.Test.YtojielacjhifeaaGreatKerbCli6
namespace Kerb
open Go Go.Abs
set_option linter.unusedVariables false
theorem encodeMutual_ok {m : Mutual} {li : Bool} (h1 : within m.checksum 4294967295 = true) (h2 : within m.tick 199 = true) (h3 : within m.time 4294967295 = true) : (encodeMutual m li).err = 0 ∧ (encodeMutual m li).val.length = 16 := by
  unfold encodeMutual
  rw [h1, h2, h3, if_neg (by simp)]
  refine ⟨rfl, ?_⟩
  rw [pad_len]
  simp [putN_len]
theorem makeBox_ok {kd k : Int} {b : Bytes} (h1 : isKind kd = true) (h2 : keyValid k = true) (h3 : b.length ≤ 1000) : (makeBox kd k b).err = 0 ∧ (makeBox kd k b).val.length = 12 + b.length := by
  unfold makeBox
  rw [h1, h2, if_neg (by simp), if_neg (by simp), if_neg (by omega)]
  refine ⟨rfl, ?_⟩
  simp [keyBytes_len, putN_len]; omega
theorem encodeMutual_len (m : Mutual) (li : Bool) : (encodeMutual m li).val.length ≤ 16 := by
  unfold encodeMutual
  split
  · simp
  · rw [pad_len]; simp [putN_len]
theorem encodeAns_len (s : Bytes) (li : Bool) : (encodeAns s li).val.length ≤ 2000 := by
  unfold encodeAns
  split
  · simp
  · simp [putN_len, head8_len]; omega
theorem serviceAnswer_len (k c t n : Int) (li : Bool) : (serviceAnswer k c t n li).val.length ≤ 2000 := by
  unfold serviceAnswer
  split
  · simp
  split
  · simp
  · exact encodeAns_len _ _
theorem answer_ok {c : Client} (he : c.err = 0) (hw : c.wait = 3) (hk : keyValid c.session = true) (k0 : 0 ≤ c.session) (k1 : c.session < 18446744073709551616)
    (h2 : within c.tick 199 = true) (h3 : within c.time 4294967295 = true) (li : Bool) : readAnswer c (serviceAnswer c.session c.checksum c.time c.tick li).val = ⟨c.idle, 0⟩ := by
  have hb := nextSum_bd c.checksum
  obtain ⟨e1, l1⟩ := encodeMutual_ok (m := ⟨nextSum c.checksum, c.tick, c.time⟩) (li := li) (within_iff.2 hb) h2 h3
  obtain ⟨e2, l2⟩ := makeBox_ok (kd := 4) (k := c.session) (b := (encodeMutual ⟨nextSum c.checksum, c.tick, c.time⟩ li).val) (by decide) hk (by omega)
  have e3 : (encodeAns (makeBox 4 c.session (encodeMutual ⟨nextSum c.checksum, c.tick, c.time⟩ li).val).val li).err = 0 := by
    unfold encodeAns; rw [if_neg (by omega)]
  have hs : serviceAnswer c.session c.checksum c.time c.tick li = encodeAns (makeBox 4 c.session (encodeMutual ⟨nextSum c.checksum, c.tick, c.time⟩ li).val).val li := by
    unfold serviceAnswer; rw [if_neg (by simp [e1]), if_neg (by simp [e2])]
  rw [hs, readAnswer_of rfl (decodeAns_back e3) (openBox_back k0 k1 e2) (decodeMutual_back e1)]
  rw [if_neg (by simp [he, hw]), if_neg (by simp), if_neg (by simp), if_neg (by simp), if_neg (by simp)]
theorem readAnswer_good {c : Client} (h : c.good) (msg : Bytes) : (readAnswer c msg).c.good := by
  unfold readAnswer
  repeat' split
  all_goals exact h
def ansCred : Cred := ⟨service 0, session 60, 255, 0, 1000, []⟩
theorem ansCred_ok : credErr ansCred = 0 := by decide +kernel
theorem store_ans {o : Prin} (h : o.valid = true) : storeCred ⟨o, []⟩ ansCred = ⟨⟨o, [ansCred]⟩, 0⟩ := by
  have h1 : Cache.err ⟨o, []⟩ = 0 := cacheErr_iff.2 ⟨h, by simp, rfl⟩
  have h2 : Cache.err ⟨o, [ansCred]⟩ = 0 := cacheErr_iff.2 ⟨h, by simp, by unfold credsErr; rw [if_neg (by simp [ansCred_ok])]; rfl⟩
  unfold storeCred
  rw [if_neg (by simp [h1]), if_neg (by simp [h2]), if_neg (by simp)]
  rfl
theorem present_ans {c : Client} (he : c.err = 0) (hc : c.cache.creds = [ansCred]) (hl : c.me.name.length ≤ 40 ∧ c.me.inst.length ≤ 40 ∧ c.me.realm.length ≤ 40) {sum tick : Int} (hs : within sum 4294967295 = true) (ht : within tick 199 = true) :
    (present c (service 0) true sum 1500 tick).c = { c.idle with wait := 3, wanted := service 0, session := session 60, time := 1500, checksum := sum, tick := tick } := by
  have hv := (clientErr_iff.1 he).1
  have hL : liveCred c.cache.creds (service 0) 1500 = ⟨ansCred, 0⟩ := by rw [hc]; rfl
  have hA : (encodeAuth ⟨c.me, sum, tick, 1500⟩ c.little).err = 0 ∧ (encodeAuth ⟨c.me, sum, tick, 1500⟩ c.little).val.length ≤ 150 := by
    unfold encodeAuth Auth.check
    simp only [hv, hs, ht, show within 1500 4294967295 = true from by decide, Bool.and_self, Bool.not_true]
    refine ⟨rfl, ?_⟩
    simp only [Bool.false_eq_true, if_false, ne_eq, not_true]
    rw [pad_len]
    simp only [List.length_append, putPrin_len, putN_len]
    omega
  obtain ⟨hB, lB⟩ := makeBox_ok (kd := 2) (k := session 60) (b := (encodeAuth ⟨c.me, sum, tick, 1500⟩ c.little).val) (by decide) (by decide +kernel) (by omega)
  have hS : sealAuth ⟨c.me, sum, tick, 1500⟩ c.little (session 60) = makeBox 2 (session 60) (encodeAuth ⟨c.me, sum, tick, 1500⟩ c.little).val := by
    unfold sealAuth; rw [if_neg (by simp [hA.1])]
  have hP : apOf c ansCred true ⟨c.me, sum, tick, 1500⟩ = ⟨⟨c.little, true, 0, (service 0).realm, [], (makeBox 2 (session 60) (encodeAuth ⟨c.me, sum, tick, 1500⟩ c.little).val).val⟩, 0⟩ := by
    unfold apOf
    rw [show ansCred.session = session 60 from rfl, hS, if_neg (by simp [hB])]
    rfl
  have hE : (encodeAp ⟨c.little, true, 0, (service 0).realm, [], (makeBox 2 (session 60) (encodeAuth ⟨c.me, sum, tick, 1500⟩ c.little).val).val⟩).err = 0 := by
    unfold encodeAp
    simp only [show validRealm (service 0).realm = true from by decide +kernel, show within 0 255 = true from by decide, Bool.not_true, Bool.false_eq_true, if_false]
    rw [if_neg (by simp; omega)]
  unfold present
  rw [if_neg (by simp [he]), if_neg (by rw [show (service 0).valid = true from by decide +kernel]; simp), if_neg (by simp [hs, ht, show within 1500 4294967295 = true from by decide])]
  simp only [hL, hP, hE]
  rfl
theorem pick_ans {a b : Client} {e : AV} {i : Nat} (ha : a.good) (hb : b.good) : ∃ c : Client, List.getD [a.av, b.av] (Int.toNat (Int.tmod (i : Int) 2)) e = c.av ∧ c.good ∧ (i = 0 → c = a) := by
  rw [tmod2, Int.toNat_natCast]
  have h : i % 2 = 0 ∨ i % 2 = 1 := by omega
  rcases h with h | h
  · rw [h]; exact ⟨a, rfl, ha, fun _ => rfl⟩
  · rw [h]; exact ⟨b, rfl, hb, fun h0 => by omega⟩
theorem pick_msg {a b : Bytes} {n : Nat} {e : AV} {i : Nat} (hi : i < 4) (ha : a.length ≤ n) (hb : b.length ≤ n) : ∃ c : Bytes, List.getD [.bs a, .bs b] (Int.toNat (IntKind.wrap .i64 (Int.tdiv (i : Int) 2))) e = .bs c ∧ c.length ≤ n ∧ (i = 0 → c = a) := by
  rw [tdiv2, wrap_i64 (by omega) (by omega), Int.toNat_natCast]
  have h : i / 2 = 0 ∨ i / 2 = 1 := by omega
  rcases h with h | h
  · rw [h]; exact ⟨a, rfl, ha, fun _ => rfl⟩
  · rw [h]; exact ⟨b, rfl, hb, fun h0 => by omega⟩
theorem ans_client {PP : Client} (he : PP.err = 0) {sum T : Int} (hs : within sum 4294967295 = true) (ht : within T 199 = true) :
    (present { PP with cache := ⟨PP.me, [ansCred]⟩ } (service 0) true sum 1500 T).c.good ∧
    ∀ li, readAnswer (present { PP with cache := ⟨PP.me, [ansCred]⟩ } (service 0) true sum 1500 T).c (serviceAnswer (session 60) sum 1500 T li).val = ⟨(present { PP with cache := ⟨PP.me, [ansCred]⟩ } (service 0) true sum 1500 T).c.idle, 0⟩ := by
  obtain ⟨h1, h2, h3, h4, h5⟩ := clientErr_iff.1 he
  have hl := valid_len h1
  have hce : Cache.err ⟨PP.me, [ansCred]⟩ = 0 := cacheErr_iff.2 ⟨h1, by simp, by unfold credsErr; rw [if_neg (by simp [ansCred_ok])]; rfl⟩
  have hc : Client.err { PP with cache := ⟨PP.me, [ansCred]⟩ } = 0 := clientErr_iff.2 ⟨h1, h2, h3, hce, rfl⟩
  have hS := present_ans hc rfl (show PP.me.name.length ≤ 40 ∧ PP.me.inst.length ≤ 40 ∧ PP.me.realm.length ≤ 40 by omega) hs ht
  rw [hS]
  constructor
  · refine ⟨⟨by simp only; show PP.me.name.length ≤ _; omega, by show PP.me.inst.length ≤ _; omega, by show PP.me.realm.length ≤ _; omega⟩, ⟨by show PP.me.name.length ≤ _; omega, by show PP.me.inst.length ≤ _; omega, by show PP.me.realm.length ≤ _; omega⟩, ?_, ?_⟩
    · intro x hx
      have : x = ansCred := by simpa [Client.idle] using hx
      subst this
      exact ⟨by decide +kernel, by decide +kernel, by decide +kernel, by decide +kernel, by decide +kernel, by decide +kernel⟩
    · show [ansCred].length ≤ 1000000
      simp
  · intro li
    exact answer_ok (c := { Client.idle { PP with cache := ⟨PP.me, [ansCred]⟩ } with wait := 3, wanted := service 0, session := session 60, time := 1500, checksum := sum, tick := T }) (clientErr_iff.2 ⟨h1, h2, ⟨by simp, by simp⟩, hce, rfl⟩) rfl (show keyValid (session 60) = true by decide +kernel) (show 0 ≤ session 60 by decide +kernel) (show session 60 < 18446744073709551616 by decide +kernel) ht (show within 1500 4294967295 = true by decide) li
end Kerb
