/- Chapter 20: what a client makes of replies and answers. -/
import Derived.Test.YtilkpebjgmkbmaaGreatKerbCli2
namespace Kerb
open Go Go.Abs
set_option linter.unusedVariables false
structure Rcv where
  c : Client
  cred : Cred
  err : Int
def repKey (c : Client) (k : Int) : Int := if c.wait = 2 then (getCred c.cache.creds (granter c.me c.wanted)).1.session else k
def readRep (c : Client) (k : Int) (msg : Bytes) : DecPart :=
  if (decodeReply msg).err ≠ 0 then ⟨noPart, (decodeReply msg).err⟩
  else if !(decodeReply msg).val.client.eqb c.me || !((decodeReply msg).val.time == c.time) then ⟨noPart, 63⟩
  else if c.wait = 2 ∧ (getCred c.cache.creds (granter c.me c.wanted)).2 = false then ⟨noPart, 76⟩
  else if (openBox (decodeReply msg).val.sealed 3 (repKey c k)).2 = false then ⟨noPart, 62⟩
  else if (decodePart (openBox (decodeReply msg).val.sealed 3 (repKey c k)).1 (decodeReply msg).val.little).err ≠ 0 ∨
      (decodePart (openBox (decodeReply msg).val.sealed 3 (repKey c k)).1 (decodeReply msg).val.little).val.service.eqb c.wanted = false then ⟨noPart, 63⟩
  else ⟨(decodePart (openBox (decodeReply msg).val.sealed 3 (repKey c k)).1 (decodeReply msg).val.little).val, 0⟩
def partCred (p : ReplyPart) : Cred := ⟨p.service, p.session, p.life, p.kvno, p.time, p.ticket⟩
def receive (c : Client) (k : Int) (msg : Bytes) (now : Int) : Rcv :=
  if c.err ≠ 0 ∨ (c.wait ≠ 1 ∧ c.wait ≠ 2) then ⟨c, noCred, 108⟩
  else if (decodeError msg).err = 0 then
    if (decodeError msg).val.client.eqb c.me = false then ⟨c, noCred, 63⟩ else ⟨c.idle, noCred, (decodeError msg).val.code⟩
  else if (readRep c k msg).err ≠ 0 then ⟨c, noCred, (readRep c k msg).err⟩
  else if near (readRep c k msg).val.time now c.skew = false then ⟨c, noCred, 37⟩
  else if (storeCred c.cache (partCred (readRep c k msg).val)).err ≠ 0 then ⟨c, noCred, (storeCred c.cache (partCred (readRep c k msg).val)).err⟩
  else ⟨{ c.idle with cache := (storeCred c.cache (partCred (readRep c k msg).val)).val }, partCred (readRep c k msg).val, 0⟩
def dataReply (client service : Prin) (session sealer : Int) (little : Bool) (time now life : Int) : Bytes :=
  (encodeReply ⟨little, client, time, 0, 0, (makeBox 3 sealer (encodePart ⟨session, service, life, 2, [1, 2, 3], now⟩ little).val).val⟩).val
structure Ans where
  kind : UInt8
  client : UInt8
  service : UInt8
  time : UInt8
  now : UInt8
  little : Bool
  sealer : UInt8
  how : Int
def isAns : AV → Bool
  | .agg [.u8 a, .u8 b, .u8 c, .u8 d, .u8 e, .bool l, .u8 s, .int .u16 h] => decide (0 ≤ h) && decide (h ≤ 65535)
  | _ => false
def noAns : Ans := ⟨0, 0, 0, 0, 0, false, 0, 0⟩
def toAns : AV → Ans
  | .agg [.u8 a, .u8 b, .u8 c, .u8 d, .u8 e, .bool l, .u8 s, .int .u16 h] => ⟨a, b, c, d, e, l, s, h⟩
  | _ => noAns
def Ans.av (x : Ans) : AV := .agg [.u8 x.kind, .u8 x.client, .u8 x.service, .u8 x.time, .u8 x.now, .bool x.little, .u8 x.sealer, .int .u16 x.how]
structure Mutual where
  checksum : Int
  tick : Int
  time : Int
def noMutual : Mutual := ⟨0, 0, 0⟩
def encodeMutual (m : Mutual) (little : Bool) : Enc :=
  if !(within m.checksum 4294967295 && within m.tick 199 && within m.time 4294967295) then ⟨[], 104⟩
  else ⟨pad (putN (cond little 1 0) 1 false ++ putN m.checksum 4 little ++ putN m.tick 1 false ++ putN m.time 4 little), 0⟩
def encodeSealed (s : Bytes) (little : Bool) : Enc :=
  if 1012 < s.length then ⟨[], 105⟩ else ⟨header 6 little ++ putN s.length 2 little ++ s, 0⟩
theorem cut_28 (b : Bytes) : List.drop (Int.toNat 2) (List.take (Int.toNat 10) b) = cut b 2 8 := by
  show List.drop 2 (List.take 10 b) = List.take 8 (List.drop 2 b)
  rw [List.drop_take]
theorem cut_12 (b : Bytes) (n : Nat) : List.drop (Int.toNat 12) (List.take (Int.toNat (12 + (n : Int))) b) = cut b 12 n := by
  have e : Int.toNat (12 + (n : Int)) = 12 + n := by omega
  rw [e]
  show List.drop 12 (List.take (12 + n) b) = List.take n (List.drop 12 b)
  rw [List.drop_take]
  congr 1
  omega
theorem cut_len (b : Bytes) (p n : Int) : (cut b p n).length ≤ b.length := by unfold cut; simp; omega
theorem size_or (x y : UInt8) : IntKind.wrap .i64 (↑(BitVec.toNat (BitVec.ofInt (IntKind.bits .i64) (IntKind.wrap .i64 (IntKind.wrap .i64 (↑x.toNat : Int) * (2 : Int) ^ min (Int.toNat (8 : Int)) (IntKind.bits .i64))) ||| BitVec.ofInt (IntKind.bits .i64) (IntKind.wrap .i64 (↑y.toNat : Int)))) : Int) = ((x.toNat * 256 + y.toNat : Nat) : Int) := by
  have hx := x.toNat_lt
  have hy := y.toNat_lt
  have e1 : (2 : Int) ^ min (Int.toNat (8 : Int)) (IntKind.bits .i64) = 256 := by decide
  rw [e1, wrap_i64 (n := (x.toNat : Int)) (by omega) (by omega), wrap_i64 (n := (y.toNat : Int)) (by omega) (by omega), wrap_i64 (n := (x.toNat : Int) * 256) (by omega) (by omega)]
  have e2 : BitVec.toNat (BitVec.ofInt (IntKind.bits .i64) ((x.toNat : Int) * 256) ||| BitVec.ofInt (IntKind.bits .i64) (y.toNat : Int)) = x.toNat * 256 + y.toNat := by
    rw [BitVec.toNat_or]
    have f1 : (BitVec.ofInt (IntKind.bits .i64) ((x.toNat : Int) * 256)).toNat = 2 ^ 8 * x.toNat := by
      rw [BitVec.toNat_ofInt]
      show (((x.toNat : Int) * 256) % ((2 ^ 64 : Nat) : Int)).toNat = _
      rw [Int.emod_eq_of_lt (by omega) (by omega)]
      omega
    have f2 : (BitVec.ofInt (IntKind.bits .i64) (y.toNat : Int)).toNat = y.toNat := by
      rw [BitVec.toNat_ofInt]
      show ((y.toNat : Int) % ((2 ^ 64 : Nat) : Int)).toNat = _
      rw [Int.emod_eq_of_lt (by omega) (by omega)]
      omega
    rw [f1, f2, ← Nat.two_pow_add_eq_or_of_lt (by omega)]
    omega
  rw [e2, wrap_i64 (by omega) (by omega)]
theorem wrap_byte (x : UInt8) : IntKind.wrap .i64 (↑x.toNat : Int) = (x.toNat : Int) := by
  have hx := x.toNat_lt
  exact wrap_i64 (by omega) (by omega)
theorem openBox_len (b : Bytes) (kd k : Int) : (openBox b kd k).1.length ≤ b.length := by
  unfold openBox
  split
  · simp
  · unfold readBox
    split
    · simp [noBox]
    split
    · simp [noBox]
    split
    · simp [noBox]
    · exact cut_len _ _ _
end Kerb
namespace Kerb
open Go Go.Abs
theorem take_filter {cs : List Cred} {i : Nat} (h : i < cs.length) (p : Cred → Bool) : (cs.take (i + 1)).filter p = (cs.take i).filter p ++ (if p (cs.getD i noCred) then [cs.getD i noCred] else []) := by
  rw [take_cred h, List.filter_append]
  congr 1
  simp only [List.filter_cons, List.filter_nil]
theorem cacheErr_creds {c : Cache} (h : c.err = 0) : c.creds.length ≤ 20 ∧ credsErr [] c.creds = 0 := by
  unfold Cache.err at h
  split at h
  · cases h
  split at h
  · cases h
  · exact ⟨by omega, h⟩
theorem store_of {c : Cache} {x : Cred} {e1 e2 : Int} (h1 : c.err = e1) (h2 : Cache.err ⟨c.owner, [x]⟩ = e2) :
    storeCred c x = if e1 ≠ 0 then ⟨noCache, e1⟩ else if e2 ≠ 0 then ⟨noCache, e2⟩ else if 20 ≤ (c.creds.filter fun d => !d.service.eqb x.service).length then ⟨noCache, 106⟩
      else ⟨⟨c.owner, (c.creds.filter fun d => !d.service.eqb x.service) ++ [x]⟩, 0⟩ := by
  subst h1 h2; rfl
end Kerb
namespace Kerb
open Go Go.Abs
def m8 (x : UInt8) : UInt8 := UInt8.ofNat (Int.toNat (Int.tmod (↑x.toNat : Int) (↑(8 : UInt8).toNat : Int)))
def d8 (x : UInt8) : Int := IntKind.wrap .i64 (↑(UInt8.ofNat (Int.toNat (IntKind.wrap .u8 (Int.tdiv (↑x.toNat : Int) (↑(8 : UInt8).toNat : Int))))).toNat : Int)
theorem u8_bd (x : UInt8) : 0 ≤ IntKind.wrap .i64 (↑x.toNat : Int) ∧ IntKind.wrap .i64 (↑x.toNat : Int) ≤ 255 := by
  have h := x.toNat_lt
  rw [wrap_i64 (by omega) (by omega)]; omega
theorem d8_bd (x : UInt8) : 0 ≤ d8 x ∧ d8 x ≤ 255 := u8_bd _
theorem d8_a (x : UInt8) : (decide (0 ≤ d8 x) && decide (d8 x ≤ 4611686018427387904)) = true := by
  have := d8_bd x; simp; omega
theorem d8_b (x : UInt8) : (decide (0 ≤ d8 x) && decide (d8 x ≤ 1000)) = true := by
  have := d8_bd x; simp; omega
def Ans.me (x : Ans) (c : Client) : Prin := cond (m8 x.client == 7) (user (d8 x.client)) c.me
def Ans.wanted (x : Ans) (c : Client) : Prin := cond (m8 x.service == 7) (Kerb.service (d8 x.service)) c.wanted
def Ans.at' (x : Ans) (c : Client) : Int := cond (m8 x.time == 7) (IntKind.wrap .i64 (↑x.time.toNat : Int)) c.time
def Ans.key (x : Ans) (k : Int) : Int := cond (m8 x.sealer == 7) (session (d8 x.sealer)) k
def Ans.code (x : Ans) : Int := IntKind.wrap .i64 (↑(UInt8.ofNat (Int.toNat (IntKind.wrap .u8 ((↑(1 : UInt8).toNat : Int) + (↑(UInt8.ofNat (Int.toNat (IntKind.wrap .u8 (Int.tdiv (↑x.kind.toNat : Int) (↑(8 : UInt8).toNat : Int))))).toNat : Int))))).toNat : Int)
def Ans.rep (x : Ans) (c : Client) (k : Int) : Bytes :=
  dataReply (x.me c) (x.wanted c) (session 50) (x.key k) x.little (x.at' c) (IntKind.wrap .i64 (1000 + IntKind.wrap .i64 (IntKind.wrap .i64 (↑x.now.toNat : Int) * 4))) 100
def Ans.text (x : Ans) (c : Client) (k : Int) : Bytes :=
  cond (m8 x.kind == 7) (encodeError ⟨x.little, x.me c, 9, x.code, []⟩).val (cond (m8 x.kind == 6) (spoil (x.rep c k) x.how) (x.rep c k))
theorem user_dec (n : Int) : (user n).name.length ≤ 9223372036854775807 ∧ (user n).inst.length ≤ 9223372036854775807 ∧ (user n).realm.length ≤ 9223372036854775807 := by
  have := user_len n; omega
theorem service_dec (n : Int) : (Kerb.service n).name.length ≤ 9223372036854775807 ∧ (Kerb.service n).inst.length ≤ 9223372036854775807 ∧ (Kerb.service n).realm.length ≤ 9223372036854775807 := by
  have := service_len n; omega
end Kerb
namespace Kerb
open Go Go.Abs
theorem dataReply_len (a b : Prin) (s k : Int) (l : Bool) (t n f : Int) : (dataReply a b s k l t n f).length ≤ 1000000 := by
  have := encodeReply_len ⟨l, a, t, 0, 0, (makeBox 3 k (encodePart ⟨s, b, f, 2, [1, 2, 3], n⟩ l).val).val⟩
  unfold dataReply; omega
theorem ansText_len (x : Ans) (c : Client) (k : Int) : (x.text c k).length ≤ 140737488355328 := by
  have h1 := encodeError_len ⟨x.little, x.me c, 9, x.code, []⟩
  have h2 : (x.rep c k).length ≤ 1000000 := dataReply_len _ _ _ _ _ _ _ _
  have h3 := spoil_len (x.rep c k) x.how
  unfold Ans.text
  cases m8 x.kind == 7
  · cases m8 x.kind == 6
    · rw [cond_false, cond_false]; omega
    · rw [cond_false, cond_true]; omega
  · rw [cond_true]; omega
theorem encodeReply_ok {r : KdcReply} (h : (encodeReply r).err = 0) : r.client.valid = true ∧ r.sealed.length ≤ 1012 := by
  unfold encodeReply at h
  split at h
  · cases h
  rename_i h1
  split at h
  · cases h
  split at h
  · cases h
  exact ⟨by simpa using h1, by omega⟩
theorem decodeReply_sealed (b : Bytes) : (decodeReply b).val.sealed.length ≤ 1012 := by
  unfold decodeReply
  split
  · simp [noReply]
  split
  · simp [noReply]
  rename_i h
  exact (encodeReply_ok (r := readReply b) (Decidable.byContradiction fun g => h (.inl g))).2
theorem encodePart_ok {p : ReplyPart} {l : Bool} (h : (encodePart p l).err = 0) : p.service.valid = true ∧ p.ticket.length ≤ 255 := by
  unfold encodePart at h
  split at h
  · cases h
  split at h
  · cases h
  rename_i h1
  split at h
  · cases h
  split at h
  · cases h
  exact ⟨by simpa using h1, by omega⟩
def ReplyPart.ok (p : ReplyPart) : Prop := (partCred p).ok ∧ p.ticket.length ≤ 255
theorem noPart_ok : noPart.ok := by simp [ReplyPart.ok, partCred, noPart, Cred.ok, noPrin]
theorem decodePart_ok (b : Bytes) (l : Bool) : (decodePart b l).val.ok := by
  unfold decodePart
  split
  · exact noPart_ok
  rename_i h
  have g := encodePart_ok (p := readPart b l) (Decidable.byContradiction fun g => h (.inl g))
  have v := valid_len g.1
  have s := readPart_bd b l
  refine ⟨⟨?_, ?_, ?_, s.1, s.2, ?_⟩, g.2⟩
  · show (readPart b l).service.name.length ≤ _; omega
  · show (readPart b l).service.inst.length ≤ _; omega
  · show (readPart b l).service.realm.length ≤ _; omega
  · show (readPart b l).ticket.length ≤ _; omega
theorem readRep_of {c : Client} {k : Int} {msg : Bytes} {r : DecReply} {o : Bytes × Bool} {p : DecPart} (hr : decodeReply msg = r) (ho : openBox r.val.sealed 3 (repKey c k) = o) (hp : decodePart o.1 r.val.little = p) :
    readRep c k msg = if r.err ≠ 0 then ⟨noPart, r.err⟩ else if !r.val.client.eqb c.me || !(r.val.time == c.time) then ⟨noPart, 63⟩
      else if c.wait = 2 ∧ (getCred c.cache.creds (granter c.me c.wanted)).2 = false then ⟨noPart, 76⟩ else if o.2 = false then ⟨noPart, 62⟩
      else if p.err ≠ 0 ∨ p.val.service.eqb c.wanted = false then ⟨noPart, 63⟩ else ⟨p.val, 0⟩ := by
  subst hr; subst ho; subst hp; rfl
theorem readRep_ok (c : Client) (k : Int) (msg : Bytes) : (readRep c k msg).val.ok := by
  unfold readRep
  split
  · exact noPart_ok
  split
  · exact noPart_ok
  split
  · exact noPart_ok
  split
  · exact noPart_ok
  split
  · exact noPart_ok
  exact decodePart_ok _ _
theorem receive_of {c : Client} {k : Int} {msg : Bytes} {now : Int} {z : Int} {e : DecErr} {q : DecPart} {s : Dec Cache} (hz : c.err = z) (he : decodeError msg = e) (hq : readRep c k msg = q) (hs : storeCred c.cache (partCred q.val) = s) :
    receive c k msg now = if z ≠ 0 ∨ (c.wait ≠ 1 ∧ c.wait ≠ 2) then ⟨c, noCred, 108⟩
      else if e.err = 0 then if e.val.client.eqb c.me = false then ⟨c, noCred, 63⟩ else ⟨c.idle, noCred, e.val.code⟩
      else if q.err ≠ 0 then ⟨c, noCred, q.err⟩ else if near q.val.time now c.skew = false then ⟨c, noCred, 37⟩
      else if s.err ≠ 0 then ⟨c, noCred, s.err⟩ else ⟨{ c.idle with cache := s.val }, partCred q.val, 0⟩ := by
  subst hz; subst he; subst hq; subst hs; rfl
theorem av_toCred {els : List AV} (h : els.all isCred = true) : (els.map toCred).map Cred.av = els := by
  obtain ⟨cs, rfl, _⟩ := creds_of h
  rw [map_toCred]
end Kerb
namespace Kerb
open Go Go.Abs
theorem receive_ref {c : Client} {k : Int} {msg : Bytes} {now : Int} {z : Int} {e : DecErr} {r : DecReply} {o : Bytes × Bool} {p : DecPart} {s : Dec Cache} (hz : c.err = z) (he : decodeError msg = e)
    (hr : decodeReply msg = r) (ho : openBox r.val.sealed 3 (repKey c k) = o) (hp : decodePart o.1 r.val.little = p) (hs : storeCred c.cache (partCred p.val) = s) :
    receive c k msg now = if z ≠ 0 ∨ (c.wait ≠ 1 ∧ c.wait ≠ 2) then ⟨c, noCred, 108⟩
      else if e.err = 0 then if e.val.client.eqb c.me = false then ⟨c, noCred, 63⟩ else ⟨c.idle, noCred, e.val.code⟩
      else if r.err ≠ 0 then ⟨c, noCred, r.err⟩ else if !r.val.client.eqb c.me || !(r.val.time == c.time) then ⟨c, noCred, 63⟩
      else if c.wait = 2 ∧ (getCred c.cache.creds (granter c.me c.wanted)).2 = false then ⟨c, noCred, 76⟩ else if o.2 = false then ⟨c, noCred, 62⟩
      else if p.err ≠ 0 ∨ p.val.service.eqb c.wanted = false then ⟨c, noCred, 63⟩ else if near p.val.time now c.skew = false then ⟨c, noCred, 37⟩
      else if s.err ≠ 0 then ⟨c, noCred, s.err⟩ else ⟨{ c.idle with cache := s.val }, partCred p.val, 0⟩ := by
  have hq := readRep_of hr ho hp
  by_cases h1 : r.err ≠ 0
  · rw [if_pos h1] at hq; rw [receive_of hz he hq rfl]; simp [h1]
  rw [if_neg h1] at hq
  by_cases h2 : (!r.val.client.eqb c.me || !(r.val.time == c.time)) = true
  · rw [if_pos h2] at hq; rw [receive_of hz he hq rfl]; simp only [if_neg h1, if_pos h2]; simp
  rw [if_neg h2] at hq
  by_cases h3 : c.wait = 2 ∧ (getCred c.cache.creds (granter c.me c.wanted)).2 = false
  · rw [if_pos h3] at hq; rw [receive_of hz he hq rfl]; simp only [if_neg h1, if_neg h2, if_pos h3]; simp
  rw [if_neg h3] at hq
  by_cases h4 : o.2 = false
  · rw [if_pos h4] at hq; rw [receive_of hz he hq rfl]; simp only [if_neg h1, if_neg h2, if_neg h3, if_pos h4]; simp
  rw [if_neg h4] at hq
  by_cases h5 : p.err ≠ 0 ∨ p.val.service.eqb c.wanted = false
  · rw [if_pos h5] at hq; rw [receive_of hz he hq rfl]; simp only [if_neg h1, if_neg h2, if_neg h3, if_neg h4, if_pos h5]; simp
  rw [if_neg h5] at hq
  rw [receive_of hz he hq hs]
  simp only [if_neg h1, if_neg h2, if_neg h3, if_neg h4, if_neg h5]
  simp
end Kerb
