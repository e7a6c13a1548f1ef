/- Chapter 24: what changes nothing, plain. -/
import Derived.Test.YtilkpebjgmkbmaaGreatKerbKac4
namespace Kerb
open Go Go.Abs
set_option linter.unusedVariables false
theorem dataCache_few (l : Bytes) (n : Int) : (dataCache l n).creds.length ≤ 9 := by
  have h := cacheLoop_err l (l.length + 1) 0 [] ⟨fun _ h => (by cases h), List.Pairwise.nil, fun _ h => (by cases h)⟩
  have := nodup_le (l := (cacheLoop l (l.length + 1) 0 []).map (·.service)) (m := services) (List.pairwise_map.2 h.2.1) (fun x hx => by
    obtain ⟨c, hc, rfl⟩ := List.mem_map.1 hx
    exact h.2.2 c hc)
  simp only [List.length_map] at this
  exact this
theorem user_tgs (n : Int) : (tgs (user n).realm (user n).realm).valid = true := by
  unfold user realm
  simp only
  split
  · decide +kernel
  split <;> decide +kernel
theorem kacPerson_err (who : UInt8) (l : Bytes) (t : Bool) (f : UInt8) : (kacPerson who l t f).err = 0 := by
  have hb := kacBase_is who l
  have he : (kacBase who l).err = 0 := by
    rw [hb]
    exact clientErr_iff.2 ⟨user_valid _, show (within 1 4294967295 && within 300 4294967295) = true by decide, ⟨show (0 : Int) ≤ 0 by decide, show (0 : Int) ≤ 3 by decide⟩, dataCache_err _ _, rfl⟩
  cases t
  · exact he
  · obtain ⟨h1, h2, h3, h4, h5⟩ := clientErr_iff.1 he
    have hf := u8i_bd f
    have hcr : credErr (tgtCred (kacBase who l) (u8i f)) = 0 := by
      unfold credErr tgtCred granter
      rw [hb]
      simp only [user_tgs, show keyValid (session 60) = true from by decide +kernel, within_iff.2 (show 0 ≤ u8i f ∧ u8i f ≤ 255 by omega), show within 6 255 = true from by decide, show within 1000 4294967295 = true from by decide, Bool.not_true, Bool.and_self, Bool.false_eq_true, if_false]
      simp
    have h6 : Cache.err ⟨(kacBase who l).cache.owner, [tgtCred (kacBase who l) (u8i f)]⟩ = 0 :=
      cacheErr_iff.2 ⟨by rw [h5]; exact h1, by simp, by unfold credsErr; rw [if_neg (by simp [hcr])]; rfl⟩
    have h7 : ((kacBase who l).cache.creds.filter fun d => !d.service.eqb (tgtCred (kacBase who l) (u8i f)).service).length ≤ 9 := by
      refine Nat.le_trans (List.length_filter_le _ _) ?_
      rw [hb]
      exact dataCache_few _ _
    have hs : (storeCred (kacBase who l).cache (tgtCred (kacBase who l) (u8i f))).err = 0 := by
      unfold storeCred
      rw [if_neg (by simp [h4]), if_neg (by simp [h6]), if_neg (by omega)]
    obtain ⟨g1, g2, _⟩ := store_keeps hs
    exact clientErr_iff.2 ⟨h1, h2, h3, g1, by show (storeCred _ _).val.owner = _; rw [g2]; exact h5⟩
theorem kaAuth_ok {c : Client} (h : c.err = 0) : (kaAuth c (long 1) 9 1200).err = 0 ∧ (kaAuth c (long 1) 9 1200).w.op = 1 := by
  have hv := (clientErr_iff.1 h).1
  have h1 : (encodeKaSecret ⟨lGet, 1200, 1200, kaEnd 1200 9, 0⟩).err = 0 := by decide +kernel
  have h2 : (makeBox 7 (long 1) (encodeKaSecret ⟨lGet, 1200, 1200, kaEnd 1200 9, 0⟩).val).err = 0 ∧ (makeBox 7 (long 1) (encodeKaSecret ⟨lGet, 1200, 1200, kaEnd 1200 9, 0⟩).val).val.length ≤ 1012 := by decide +kernel
  have h3 : (kaSend ⟨1, c.me, 0, [], [], [], [], []⟩ ⟨lGet, 1200, 1200, kaEnd 1200 9, 0⟩ (long 1)).err = 0 := by
    unfold kaSend
    rw [if_neg (by simp [h1]), if_neg (by simp [h2.1])]
    generalize (makeBox 7 (long 1) (encodeKaSecret ⟨lGet, 1200, 1200, kaEnd 1200 9, 0⟩).val).val = b at h2
    unfold encodeKaRequest
    simp only [show kaOp 1 = true from by decide, show ((1 : Int) == 2) = false from by decide, hv, Bool.not_true, Bool.false_eq_true, if_false]
    rw [if_neg (by omega)]
    simp
  unfold kaAuth
  rw [if_neg (by simp [h]), if_neg (by decide), if_neg (by decide +kernel), if_neg (by simp [h3])]
  exact ⟨rfl, rfl⟩
theorem kaAnsVal_len (a : KaAnswer) : (encodeKaAnswer a).val.length ≤ 1000 := by
  unfold encodeKaAnswer
  split
  · simp
  split
  · simp
  split
  · split
    · simp
    split
    · simp
    split
    · simp
    split
    · simp
    rename_i h0 _ h1 _ _ h2 h3
    have hv := valid_len (p := a.service) (by simpa using h2)
    have hlab : a.label.length = 4 := by
      simp only [ticketed, Bool.or_eq_true, beq_iff_eq] at h1
      rcases h1 with h1 | h1 <;> rw [h1] <;> rfl
    simp only [pad_len]
    simp only [putTick, List.length_append, putPrin_len, putN_len, keyBytes_len]
    omega
  · rename_i h0 _ h1
    split
    · simp
    · have hlab : a.label.length = 4 := by
        simp only [ticketed, Bool.or_eq_true, beq_iff_eq, not_or, Bool.not_eq_true', Bool.and_eq_true, Bool.or_eq_false_iff] at h0 h1
        by_cases hd : a.label = lDone
        · rw [hd]; rfl
        · exact absurd ⟨⟨by simpa using h1.1, by simpa using h1.2⟩, by simpa using hd⟩ h0
      simp only [pad_len]
      simp only [List.length_append, putN_len]
      omega
theorem valB_ends {l : Bytes} (h : l.length = 8) (hv : valB l = long 1) : (l.getD 0 0).toNat = 1 ∧ (l.getD 7 0).toNat = 2 := by
  have hl : long 1 = 72057594037927938 := by decide +kernel
  rw [hl] at hv
  match l, h with
  | [a0, a1, a2, a3, a4, a5, a6, a7], _ =>
    have := a0.toNat_lt
    have := a1.toNat_lt
    have := a2.toNat_lt
    have := a3.toNat_lt
    have := a4.toNat_lt
    have := a5.toNat_lt
    have := a6.toNat_lt
    have := a7.toNat_lt
    simp only [valB, List.foldl] at hv
    simp only [List.getD_cons_zero, List.getD_cons_succ]
    omega
theorem opened_at {b : Bytes} {r : KaReply} (hr : (encodeKaReply r).err = 0) (hb : (encodeKaReply r).val = b) (ho : (openBox r.box 8 (long 1)).2 = true) : (b.getD 8 0).toNat = 1 ∧ (b.getD 15 0).toNat = 2 := by
  obtain ⟨h1, h2, h3, hv⟩ := encKaRep_inv hr
  rw [hb] at hv
  have hx : (readBox r.box).err = 0 ∧ (readBox r.box).box.key = long 1 := by
    unfold openBox at ho
    split at ho
    · cases ho
    · rename_i h
      simp only [not_or, ne_eq, Decidable.not_not] at h
      exact ⟨h.1, h.2.2.2⟩
  unfold readBox at hx
  split at hx
  · exact absurd hx.1 (by decide)
  rename_i g1
  split at hx
  · exact absurd hx.1 (by decide)
  rename_i g2
  split at hx
  · exact absurd hx.1 (by decide)
  simp only [not_or, ne_eq, Decidable.not_not, Bool.not_eq_false] at g2
  have hk : (keyRead (cut r.box 2 8)).1 = long 1 := hx.2
  have hk2 := g2.2.2.1
  have hc : (cut r.box 2 8).length = 8 ∧ valB (cut r.box 2 8) = long 1 := by
    unfold keyRead at hk hk2
    split at hk
    · rename_i h; exact ⟨h.1, hk⟩
    · rename_i h; rw [if_neg h] at hk2; cases hk2
  obtain ⟨e1, e2⟩ := valB_ends hc.1 hc.2
  have hcut : ∀ i, i < 8 → (cut r.box 2 8).getD i 0 = r.box.getD (2 + i) 0 := by
    intro i hi
    unfold cut
    simp [List.getD_eq_getElem?_getD, List.getElem?_take, hi]
  have hpos : ∀ i, b.getD (6 + i) 0 = r.box.getD i 0 := by
    intro i
    have e : b = (header 9 false ++ (putN (r.op + 128) 1 false ++ (putN r.code 1 false ++ putN r.box.length 2 false))) ++ r.box := by rw [hv]; simp
    have hl : (header 9 false ++ (putN (r.op + 128) 1 false ++ (putN r.code 1 false ++ putN r.box.length 2 false))).length = 6 := by simp [putN_len, header, isKind]
    rw [e, List.getD_eq_getElem?_getD, List.getElem?_append_right (by omega), hl, List.getD_eq_getElem?_getD]
    congr 2
    omega
  rw [hcut 0 (by omega)] at e1
  rw [hcut 7 (by omega)] at e2
  exact ⟨by rw [show (8 : Nat) = 6 + (2 + 0) from rfl, hpos]; exact e1, by rw [show (15 : Nat) = 6 + (2 + 7) from rfl, hpos]; exact e2⟩
theorem spoil_keeps {m : Bytes} (how : Int) (h8 : (m.getD 8 0).toNat = 2) (h9 : (m.getD 9 0).toNat = 0) (h15 : (m.getD 15 0).toNat = 8) (hl : 18 ≤ m.length) (hl2 : m.length ≤ 2000) (w0 : 0 ≤ how) (w1 : how ≤ 65535) :
    ¬ (((spoil m how).getD 8 0).toNat = 1 ∧ ((spoil m how).getD 15 0).toNat = 2) ∧ 17 ≤ (spoil m how).length := by
  unfold spoil
  rw [if_neg (fun h => by rw [h] at hl; simp at hl)]
  split
  · generalize (spoilAt m how).toNat = p
    refine ⟨fun h => ?_, by simp; omega⟩
    by_cases hp : p = 8
    · subst hp
      have h2 := h.2
      rw [List.getD_eq_getElem?_getD, List.getElem?_set_ne (by omega), ← List.getD_eq_getElem?_getD] at h2
      omega
    · have h1 := h.1
      rw [List.getD_eq_getElem?_getD, List.getElem?_set_ne hp, ← List.getD_eq_getElem?_getD] at h1
      omega
  split
  · obtain ⟨p0, p1⟩ := spoilAt_bd w0 w1 (show 0 < m.length by omega)
    have hq : Int.toNat (IntKind.wrap .i64 (spoilAt m how + 1)) = (spoilAt m how).toNat + 1 := by rw [wrap_i64 (by omega) (by omega)]; omega
    have hp : (spoilAt m how).toNat < m.length := by omega
    rw [hq]
    generalize (spoilAt m how).toNat = p at hp
    refine ⟨fun h => ?_, by simp; omega⟩
    have h1 := h.1
    by_cases hp8 : 8 < p
    · rw [List.getD_eq_getElem?_getD, List.getElem?_append_left (by simp; omega), List.getElem?_take_of_lt hp8, ← List.getD_eq_getElem?_getD] at h1
      omega
    · have hi : p + 1 + (8 - (List.take p m).length) = 9 := by simp; omega
      rw [List.getD_eq_getElem?_getD, List.getElem?_append_right (by simp; omega), List.getElem?_drop, hi, ← List.getD_eq_getElem?_getD] at h1
      omega
  split
  · refine ⟨fun h => ?_, by simp; omega⟩
    have h1 := h.1
    rw [List.getD_eq_getElem?_getD, List.getElem?_append_left (by omega), ← List.getD_eq_getElem?_getD] at h1
    omega
  · exact ⟨fun h => by omega, by omega⟩
theorem kept_of {c : Client} {w : KaWait} {b : Bytes} (hc : c.err = 0) (hw : w.op = 1) (hn : ¬ ((b.getD 8 0).toNat = 1 ∧ (b.getD 15 0).toNat = 2)) (hl : 17 ≤ b.length) :
    ∃ e, kaReceive c w (long 1) b = ⟨c, w, noCred, e⟩ ∧ e ≠ 0 := by
  rw [kaReceive_of rfl rfl rfl rfl, if_neg (by rw [hc, hw]; simp [kaOp])]
  by_cases h1 : (decodeKaReply b).err = 0
  case neg => exact ⟨_, by rw [if_pos h1], h1⟩
  rw [if_neg (by simpa using h1)]
  have hd : (encodeKaReply (decodeKaReply b).val).err = 0 ∧ (encodeKaReply (decodeKaReply b).val).val = b := by
    unfold decodeKaReply at h1 ⊢
    split at h1
    · rename_i h; exact absurd h1 h
    · rename_i h
      rw [if_neg h]
      unfold decBy at h1 ⊢
      split at h1
      · cases h1
      · rename_i g
        rw [if_neg g]
        simp only [not_or, ne_eq, Decidable.not_not] at g
        exact ⟨g.2.1, g.2.2⟩
  by_cases h2 : (decodeKaReply b).val.op = w.op
  case neg => exact ⟨63, by rw [if_pos h2], by decide⟩
  rw [if_neg (by simpa using h2)]
  by_cases h3 : (decodeKaReply b).val.code = 0
  case neg =>
    exfalso
    obtain ⟨g1, g2, g3, g4⟩ := encKaRep_inv hd.1
    have hb : (decodeKaReply b).val.box = [] := by
      have := hd.1
      unfold encodeKaReply at this
      split at this
      · cases this
      split at this
      · cases this
      split at this
      · cases this
      split at this
      · cases this
      · rename_i q
        simp only [not_and, ne_eq, Decidable.not_not] at q
        exact q h3
    rw [hd.2, hb] at g4
    have : b.length = 6 := by rw [g4]; simp [putN_len, header, isKind]
    omega
  rw [if_neg (by simpa using h3)]
  have hk : kaKey w (long 1) = long 1 := if_neg (by rw [hw]; decide)
  have ho : (openBox (decodeKaReply b).val.box 8 (long 1)).2 = false := by
    cases h : (openBox (decodeKaReply b).val.box 8 (long 1)).2
    · rfl
    · exact absurd (opened_at hd.1 hd.2 h) hn
  have hq : kaOpen w (long 1) (decodeKaReply b).val.box = ⟨noKaAnswer, 62⟩ := by
    unfold kaOpen
    rw [hk, if_pos ho]
  rw [hq]
  exact ⟨62, by rw [if_pos (by simp)], by decide⟩
theorem kac_kept {c : Client} {w : KaWait} (hc : c.err = 0) (hw : w.op = 1) {al at_ av : UInt8} {as_ ae ah : Int} (h0 : 0 ≤ ah) (h1 : ah ≤ 65535) :
    ∃ e, kaReceive c w (long 1) (kacText ⟨0, al, at_, av, 7, 0, as_, ae, ah⟩ w (long 1)) = ⟨c, w, noCred, e⟩ ∧ e ≠ 0 := by
  have hop : kacOp ⟨0, al, at_, av, 7, 0, as_, ae, ah⟩ w = 1 := hw
  have hkey : kacKey ⟨0, al, at_, av, 7, 0, as_, ae, ah⟩ w (long 1) = session 7 := by
    unfold kacKey
    rw [show (m8 (7 : UInt8) == 7) = true from by decide +kernel, cond_true]
    show session (IntKind.wrap .i64 (((7 : UInt8).toNat : Nat) : Int)) = session 7
    decide +kernel
  have hlen := kaAnsVal_len (kacX ⟨0, al, at_, av, 7, 0, as_, ae, ah⟩ w)
  obtain ⟨X, hX⟩ : ∃ X, (encodeKaAnswer (kacX ⟨0, al, at_, av, 7, 0, as_, ae, ah⟩ w)).val = X := ⟨_, rfl⟩
  rw [hX] at hlen
  have hrep : kacReply ⟨0, al, at_, av, 7, 0, as_, ae, ah⟩ w (long 1) = ⟨1, 0, (makeBox 8 (session 7) X).val⟩ := by
    unfold kacReply
    rw [show (m8 (0 : UInt8) == 7) = false from by decide +kernel, cond_false, hop, hkey, hX]
  have hbox : (makeBox 8 (session 7) X).val = [66, 8] ++ keyBytes (session 7) ++ putN X.length 2 false ++ X := by
    unfold makeBox
    rw [show isKind 8 = true from by decide, show keyValid (session 7) = true from by decide +kernel, if_neg (by simp), if_neg (by simp), if_neg (by omega)]
    rfl
  have hkb : keyBytes (session 7) = [2, 0, 0, 0, 0, 0, 0, 8] := by decide +kernel
  have hm : (encodeKaReply ⟨1, 0, (makeBox 8 (session 7) X).val⟩).val = [4, 18, 129, 0] ++ putN ((makeBox 8 (session 7) X).val.length) 2 false ++ ([66, 8, 2, 0, 0, 0, 0, 0, 0, 8] ++ putN X.length 2 false ++ X) := by
    have hbl : (makeBox 8 (session 7) X).val.length ≤ 1012 := by rw [hbox, hkb]; simp [putN_len]; omega
    unfold encodeKaReply
    rw [show kaOp 1 = true from by decide, show within 0 99 = true from by decide, if_neg (by simp), if_neg (by simp), if_neg (by simpa using hbl), if_neg (by simp)]
    show putBox (kaHead (1 + 128) ++ putN 0 1 false) (makeBox 8 (session 7) X).val = _
    rw [show kaHead (1 + 128) ++ putN 0 1 false = [4, 18, 129, 0] from by decide +kernel]
    unfold putBox
    generalize hg : putN ((makeBox 8 (session 7) X).val.length : Int) 2 false = G
    rw [hbox, hkb]
    simp
  generalize hgen : (makeBox 8 (session 7) X).val.length = N at hm
  obtain ⟨g0, g1, hG⟩ : ∃ g0 g1, putN (N : Int) 2 false = [g0, g1] := by
    have := putN_len (N : Int) 2 false
    match putN (N : Int) 2 false, this with
    | [a, b], _ => exact ⟨a, b, rfl⟩
  rw [hG] at hm
  have hpl := putN_len (X.length : Int) 2 false
  unfold kacText
  rw [hrep]
  generalize (encodeKaReply ⟨1, 0, (makeBox 8 (session 7) X).val⟩).val = M at hm
  have hM : 18 ≤ M.length ∧ M.length ≤ 2000 := by rw [hm]; simp [hpl]; omega
  have m8' : (M.getD 8 0).toNat = 2 := by rw [hm]; rfl
  have m9 : (M.getD 9 0).toNat = 0 := by rw [hm]; rfl
  have m15 : (M.getD 15 0).toNat = 8 := by rw [hm]; rfl
  have hw16 : 0 ≤ IntKind.wrap .u16 (Int.tdiv ah 16) ∧ IntKind.wrap .u16 (Int.tdiv ah 16) ≤ 65535 := by
    have : IntKind.wrap .u16 (Int.tdiv ah 16) = Int.tdiv ah 16 % 65536 := by simp [IntKind.wrap, IntKind.signed, IntKind.bits]
    rw [this]; omega
  cases Int.tmod ah 16 == 15
  · exact kept_of hc hw (by rw [cond_false, m8']; omega) (by rw [cond_false]; omega)
  · obtain ⟨k1, k2⟩ := spoil_keeps (IntKind.wrap .u16 (Int.tdiv ah 16)) m8' m9 m15 hM.1 hM.2 hw16.1 hw16.2
    exact kept_of hc hw k1 k2
def refCode (code : UInt8) : Int := IntKind.wrap .i64 (↑(UInt8.toNat (UInt8.ofNat (Int.toNat (IntKind.wrap .u8 ((↑(UInt8.toNat 1) : Int) + (↑(UInt8.toNat (UInt8.ofNat (Int.toNat (Int.tmod (↑(UInt8.toNat code) : Int) (↑(UInt8.toNat 99) : Int))))) : Int)))))) : Int)
theorem refCode_bd (code : UInt8) : 1 ≤ refCode code ∧ refCode code ≤ 99 := by
  have h : ∀ n, n < 256 → 1 ≤ refCode (UInt8.ofNat n) ∧ refCode (UInt8.ofNat n) ≤ 99 := by decide +kernel
  have := h code.toNat code.toNat_lt
  rwa [UInt8.ofNat_toNat] at this
theorem refused_ok {op n : Int} (ho : 1 ≤ op ∧ op ≤ 3) (hn : 1 ≤ n ∧ n ≤ 99) : (encodeKaReply ⟨op, n, []⟩).err = 0 := by
  unfold encodeKaReply
  rw [if_neg (by simp [kaOp]; omega), if_neg (by simp [within]; omega), if_neg (by simp), if_neg (by simp)]
theorem refused_ends {c : Client} {w : KaWait} (hc : c.err = 0) (hw : w.op = 1) {n : Int} (hn : 1 ≤ n ∧ n ≤ 99) : kaReceive c w (long 1) (encodeKaReply ⟨1, n, []⟩).val = ⟨c, noWait, noCred, n⟩ := by
  rw [kaReceive_of rfl (kaRep_dec (refused_ok (by omega) hn)) rfl rfl, if_neg (by rw [hc, hw]; simp [kaOp]), if_neg (by simp), if_neg (by simp [hw]), if_pos (by simp only; omega)]
theorem refused_other {c : Client} {w : KaWait} (hc : c.err = 0) (hw : w.op = 1) {n : Int} (hn : 1 ≤ n ∧ n ≤ 99) : kaReceive c w (long 1) (encodeKaReply ⟨3, n, []⟩).val = ⟨c, w, noCred, 63⟩ := by
  rw [kaReceive_of rfl (kaRep_dec (refused_ok (by omega) hn)) rfl rfl, if_neg (by rw [hc, hw]; simp [kaOp]), if_neg (by simp), if_pos (by simp [hw])]
end Kerb
