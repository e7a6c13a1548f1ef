/- Every operation is local in the store, and looks at its operands' slots alone. -/
import Derived.Test.YtilkpebjgmkbmaaGreatAbsLoc5
namespace Go.Abs
set_option linter.unusedVariables false
section
variable (E : Env) (sl : Nat → AV)
theorem loc_call2 {U : StT AV} {j : Nat} {tys : List Nat} {vs : List AV} {st : Nat → Blk} {as : List AV} {bl : List (Nat × Nat × List AV)} {st1 : Nat → Blk} {f1 : FP} {bs : Blocks} {v : AV} {st2 : Nat → Blk} {f2 : FP}
    (l1 : Loc (fun β s k => outArgs E j tys vs s fun l bl s1 fp => k (l, bl) s1 fp) st (as, bl) st1 f1) (l2 : Loc U (backSt bl bs st1) v st2 f2) :
    Loc (fun β s k => outArgs E j tys vs s fun l bl s1 fp => U β (backSt bl bs s1) fun v s2 f2 => k v s2 (fp.add f2)) st v st2 (f1.add f2) := by
  have hkeys : ∀ x ∈ bl.map (·.2.1), x ∈ f1.wr ∧ x ∈ f1.rd := outArgs_keys E (l1.here _ trip)
  refine ⟨fun x hx => ?_, fun s hs β k => ?_⟩
  · simp only [FP.add, List.mem_append, not_or] at hx
    rw [l2.eff x hx.2, (backSt_at (s2 := st1)).1 fun hm => hx.1 (hkeys x hm).1, l1.eff x hx.1]
  · simp only [FP.add, List.mem_append] at hs
    have h1 := l1.run s (fun x hx => hs x (.inl hx)) β (fun x s1 fp => U β (backSt x.2 bs s1) fun v s2 f2 => k v s2 (fp.add f2))
    simp only at h1
    rw [h1, l2.run _ fun x hx => ?_]
    · congr 1
      funext x
      simp only [merge, FP.add, List.mem_append]
      by_cases e2 : x ∈ f2.wr
      · simp [e2]
      · by_cases e1 : x ∈ f1.wr
        · simp only [e1, e2, if_true, if_false, or_false]
          rw [l2.eff x e2]
          exact backSt_at.2 (by simp [merge, e1])
        · simp only [e1, e2, if_false, or_self]
          rw [(backSt_at (s2 := st1)).1 fun hm => e1 (hkeys x hm).1]
          simp [merge, e1]
    · by_cases e1 : x ∈ f1.wr
      · exact backSt_at.2 (by simp [merge, e1])
      · rw [(backSt_at (s2 := st1)).1 fun hm => e1 (hkeys x hm).1, (backSt_at (s2 := st1)).1 fun hm => e1 (hkeys x hm).1]
        simp only [merge, e1, if_false]
        rw [hs x (.inr hx), l1.eff x e1]
def inR (own : Bool) (t : Nat) (rt : List Nat) (v : AV) : StT AV := fun β s k =>
  match rt with
  | [ty] => match E.ty ty with
    | some i => inRes E own t i v s k
    | none => none
  | rt => v.onTup fun vs => inTup E own t rt vs s fun l s2 f2 => k (.tup l) s2 f2
theorem loc_inR (own : Bool) (t : Nat) (rt : List Nat) (v : AV) : IsLoc (inR E own t rt v) := by
  unfold inR
  split
  · split
    · exact loc_inRes E _ _ _ _
    · exact IsLoc.none
  · cases v <;> simp only [AV.onTup] <;> first | exact IsLoc.none | exact (loc_inTup E own t rt _).map
theorem doCall_eq {α : Type} (fr : Fr) (rts : Nat → Option (List Nat)) (t f : Nat) (tys : List Nat) (vs : List AV) (k : Ret α) : doCall E fr rts t f tys vs k = match rts f with
    | none => none
    | some rt => outArgs E 0 tys vs fr.st fun as bl st fp => (E.call f as (bl.map fun x => (x.1, x.2.2))).bind fun r => inBlks bl r.2 st fun st1 => inR E (E.own f) t rt r.1 α st1 fun v st2 f2 => k v st2 (fp.add f2) := by
  unfold doCall
  cases rts f with
  | none => rfl
  | some rt =>
    rcases rt with _ | ⟨ty, _ | ⟨ty2, rt⟩⟩
    · rfl
    · simp only [inR]
      rfl
    · rfl
theorem loc_doCall (rts : Nat → Option (List Nat)) (t f : Nat) (tys : List Nat) (vs : List AV) : IsLoc (fun β s k => doCall E ⟨sl, s⟩ rts t f tys vs k) := by
  refine ⟨fun {α st k r} hk => ?_⟩
  rw [doCall_eq] at hk
  cases hrt : rts f with
  | none => rw [hrt] at hk; cases hk
  | some rt =>
    rw [hrt] at hk
    simp only at hk
    obtain ⟨⟨as, bl⟩, st1, f1, hk1, l1⟩ := (loc_outArgs E 0 tys vs).go (k := fun x st fp => (E.call f x.1 (x.2.map fun x => (x.1, x.2.2))).bind fun r => inBlks x.2 r.2 st fun st1 => inR E (E.own f) t rt r.1 α st1 fun v st2 f2 => k v st2 (fp.add f2)) hk
    obtain ⟨⟨res, bs⟩, hcall, hk2⟩ := bind_inv hk1
    obtain ⟨hk3, hdet⟩ := inBlks_det hk2
    simp only at hk3 hcall hdet
    obtain ⟨v, st2, f2, hk4, l2⟩ := (loc_inR E (E.own f) t rt res).go hk3
    refine ⟨_, _, _, hk4, ⟨(loc_call2 E l1 l2).eff, fun s hs β k2 => ?_⟩⟩
    have hl := (loc_call2 E l1 l2).run s hs β k2
    rw [← hl, doCall_eq, hrt]
    have h1 := fun (K : List AV × List (Nat × Nat × List AV) → (Nat → Blk) → FP → Option β) => l1.run s (fun x hx => hs x (List.mem_append.2 (.inl hx))) β K
    have e1 := h1 fun x st fp => (E.call f x.1 (x.2.map fun x => (x.1, x.2.2))).bind fun r => inBlks x.2 r.2 st fun st1 => inR E (E.own f) t rt r.1 β st1 fun v st2 f2 => k2 v st2 (fp.add f2)
    have e2 := h1 fun x s1 fp => inR E (E.own f) t rt res β (backSt x.2 bs s1) fun v s2 f2 => k2 v s2 (fp.add f2)
    simp only at e1 e2 ⊢
    rw [e1, e2, hcall]
    simp only [Option.bind_some]
    rw [hdet]
theorem evalO_st (s s0 : Nat → Blk) (x : Operand) : evalO E ⟨sl, s⟩ x = evalO E ⟨sl, s0⟩ x := by cases x <;> rfl
theorem evalAll_st (s s0 : Nat → Blk) : ∀ (xs : List Operand), evalAll E ⟨sl, s⟩ xs = evalAll E ⟨sl, s0⟩ xs
  | [] => rfl
  | x :: r => by simp only [evalAll]; rw [evalO_st E sl s s0 x, evalAll_st s s0 r]
theorem evalParts_st (s s0 : Nat → Blk) : ∀ (xs : List (Nat × Operand)), evalParts E ⟨sl, s⟩ xs = evalParts E ⟨sl, s0⟩ xs
  | [] => rfl
  | (i, x) :: r => by simp only [evalParts]; rw [evalO_st E sl s s0 x, evalParts_st s s0 r]
theorem IsLoc.ev {A : Type} {T : AV → StT A} (x : Operand) (h : ∀ v, IsLoc (T v)) : IsLoc (fun β s k => (evalO E ⟨sl, s⟩ x).bind fun v => T v β s k) :=
  (IsLoc.obind (evalO E ⟨sl, fun _ => .free⟩ x) h).of_eq fun β s k => by rw [evalO_st E sl s (fun _ => .free) x]
theorem IsLoc.evA {A : Type} {T : List AV → StT A} (x : List Operand) (h : ∀ v, IsLoc (T v)) : IsLoc (fun β s k => (evalAll E ⟨sl, s⟩ x).bind fun v => T v β s k) :=
  (IsLoc.obind (evalAll E ⟨sl, fun _ => .free⟩ x) h).of_eq fun β s k => by rw [evalAll_st E sl s (fun _ => .free) x]
theorem IsLoc.evP {A : Type} {T : List (Nat × AV) → StT A} (x : List (Nat × Operand)) (h : ∀ v, IsLoc (T v)) : IsLoc (fun β s k => (evalParts E ⟨sl, s⟩ x).bind fun v => T v β s k) :=
  (IsLoc.obind (evalParts E ⟨sl, fun _ => .free⟩ x) h).of_eq fun β s k => by rw [evalParts_st E sl s (fun _ => .free) x]
theorem loc_doOp (rts : Nat → Option (List Nat)) (o : Oper) : IsLoc (fun β s k => doOp E rts ⟨sl, s⟩ o k) := by
  obtain ⟨dst, op, type, pos, after, guard⟩ := o
  cases op <;> simp only [doOp] <;> try exact IsLoc.none
  case move x => exact IsLoc.ev E sl x fun v => IsLoc.ret v
  case assign x => exact IsLoc.ev E sl x fun v => IsLoc.ret v
  case pick c a b =>
    refine IsLoc.ev E sl c fun v => ?_
    cases v <;> simp only [AV.onBool] <;> try exact IsLoc.none
    rename_i t
    cases t
    · exact IsLoc.ev E sl b fun v => IsLoc.ret v
    · exact IsLoc.ev E sl a fun v => IsLoc.ret v
  case alloc e =>
    refine IsLoc.obind _ fun i => ?_
    cases dst with
    | none => exact IsLoc.none
    | some t =>
      simp only
      split
      · exact IsLoc.obind _ fun l => loc_newBlk sl _ _ _
      · exact loc_newBlk sl _ _ _
  case box e x =>
    refine IsLoc.obind _ fun i => IsLoc.ev E sl x fun v => ?_
    cases dst with
    | none => exact IsLoc.none
    | some t => exact (loc_newBlk sl _ _ _).cond _
  case build t ps => exact IsLoc.obind _ fun i => IsLoc.evP E sl _ fun ps => loc_doBuild E sl i ps
  case buildSlice t n ps =>
    refine IsLoc.obind _ fun i => IsLoc.evP E sl _ fun ps => ?_
    cases viewOf E dst
    · exact loc_doBuildSlice E sl i n ps
    · cases dst with
      | none => exact loc_doBuildSlice E sl i n ps
      | some d => exact loc_doBuildOwn sl d i n ps
  case makeSlice t l c =>
    refine IsLoc.obind _ fun i => IsLoc.ev E sl l fun n => IsLoc.ev E sl c fun m => ?_
    cases dst with
    | none => exact IsLoc.none
    | some d => exact loc_doMake sl _ _ _ _
  case load t a => exact IsLoc.obind _ fun i => IsLoc.ev E sl a fun v => loc_doLoad E sl i v
  case store t a x => exact IsLoc.obind _ fun i => IsLoc.ev E sl a fun p => IsLoc.ev E sl x fun v => loc_doStore E sl i p v
  case nilCheck x =>
    refine IsLoc.ev E sl x fun v => ?_
    cases v <;> first | exact IsLoc.ret _ | exact IsLoc.none
  case binOp op t x y z => exact IsLoc.obind _ fun i => IsLoc.ev E sl x fun a => IsLoc.ev E sl y fun b => IsLoc.obind _ fun v => (IsLoc.ret v.2).chk _
  case unOp op t x => exact IsLoc.ev E sl x fun a => IsLoc.obind _ fun v => IsLoc.ret v
  case convert s d x => exact IsLoc.obind _ fun si => IsLoc.obind _ fun di => IsLoc.ev E sl x fun v => loc_doConvert sl si di v
  case slice t x lo hi mx =>
    refine IsLoc.obind _ fun i => IsLoc.ev E sl x fun v => ?_
    obtain ⟨f, hf⟩ : ∃ f : Operand → Option AV, ∀ s x, evalO E ⟨sl, s⟩ x = f x := ⟨_, fun s x => evalO_st E sl s (fun _ => .free) x⟩
    have hvw : ∀ (a b : Option AV), IsLoc (fun β s k => match viewOf E dst with | true => doView ⟨sl, s⟩ i v a b k | false => doSlice E ⟨sl, s⟩ i v a b none k) := fun a b => by
      cases viewOf E dst
      · exact loc_doSlice E sl _ _ _ _ _
      · exact loc_doView sl _ _ _ _
    rcases lo with _ | lo <;> rcases hi with _ | hi <;> rcases mx with _ | mx <;> simp only [Option.map_some, Option.map_none, hf]
    · exact hvw _ _
    · cases f mx <;> exact IsLoc.none
    · cases f hi <;> first | exact IsLoc.none | exact hvw _ _
    · cases f hi <;> cases f mx <;> first | exact IsLoc.none | exact loc_doSlice3 sl _ _ _ _ _
    · cases f lo <;> first | exact IsLoc.none | exact hvw _ _
    · cases f lo <;> cases f mx <;> exact IsLoc.none
    · cases f lo <;> cases f hi <;> first | exact IsLoc.none | exact hvw _ _
    · cases f lo <;> cases f hi <;> cases f mx <;> first | exact IsLoc.none | exact loc_doSlice3 sl _ _ _ _ _
  case fieldAddr t x f => exact IsLoc.obind _ fun i => IsLoc.obind _ fun p => IsLoc.ev E sl x fun v => loc_doFieldAddr sl _ v
  case field t x f =>
    refine IsLoc.obind _ fun i => IsLoc.obind _ fun p => IsLoc.obind _ fun fi => IsLoc.ev E sl x fun v => ?_
    cases v <;> simp only [AV.onAgg] <;> try exact IsLoc.none
    exact IsLoc.pureO (f := id) loadCells_det
  case indexAddr t x ix => exact IsLoc.obind _ fun i => IsLoc.ev E sl x fun v => IsLoc.ev E sl ix fun n => loc_doIndexAddr E sl i v n
  case index t x ix => exact IsLoc.obind _ fun i => IsLoc.ev E sl x fun v => IsLoc.ev E sl ix fun n => loc_doIndex sl i v n
  case extract x j =>
    refine IsLoc.ev E sl x fun v => ?_
    cases v <;> simp only [AV.onTup] <;> try exact IsLoc.none
    split <;> first | exact IsLoc.ret _ | exact IsLoc.none
  case call c =>
    split
    · refine IsLoc.evA E sl _ fun vs => ?_
      split
      · exact IsLoc.obind _ fun i => loc_doLen sl i _
      · exact IsLoc.none
    · refine IsLoc.evA E sl _ fun vs => ?_
      split
      · refine IsLoc.obind _ fun i => IsLoc.obind _ fun xi => ?_
        split <;> first | exact loc_doAppend E sl _ _ _ _ | exact IsLoc.none
      · exact IsLoc.none
    · exact IsLoc.evA E sl _ fun vs => IsLoc.obind _ fun v => IsLoc.ret v
    · exact IsLoc.evA E sl _ fun vs => IsLoc.obind _ fun v => IsLoc.ret v
    · refine IsLoc.evA E sl _ fun vs => ?_
      cases dst with
      | none => exact IsLoc.none
      | some t => exact loc_doCall E sl rts _ _ _ _
    · refine IsLoc.ev E sl _ fun v => ?_
      cases v <;> simp only [AV.onFn] <;> try exact IsLoc.none
      refine IsLoc.evA E sl _ fun vs => ?_
      cases dst with
      | none => exact IsLoc.none
      | some t => exact loc_doCall E sl rts _ _ _ _
    · exact IsLoc.none
end
end Go.Abs
