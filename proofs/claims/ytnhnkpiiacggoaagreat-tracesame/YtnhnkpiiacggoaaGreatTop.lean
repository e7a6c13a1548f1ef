/- The table is right, and the laws. -/
import Derived.Test.YtnhnkpiiacggoaaGreatWalk1
import Derived.Test.YtnhnkpiiacggoaaGreatAbsPrim
import Derived.Test.YtnhnkpiiacggoaaGreatAbsLaw
import Derived.Test.YtnhnkpiiacggoaaGreatRows
namespace Go.Proofs.YtnhnkpiiacggoaaGreat
open Go Go.Abs Go.Proofs
open Go.ChangeShapes Go.WideShapes Go.ChangeAt Go.RowKit Go.Lib
set_option linter.unusedVariables false
set_option maxRecDepth 100000
theorem tbl_ok:(List.range 290).map (fun t=>match (tbl[t]?).join with | some _=>mkTI Tryz.prog t | none=>none)=tbl:=by kernel_rfl
theorem ty_ok:∀ t i,G.ty t=some i→mkTI Tryz.prog t=some i:=by
 intro t i h
 have h1:(tbl[t]?).join=some i:=h
 have h2:tbl[t]? = some (some i):=by
  cases hx:tbl[t]? with
  | none=>rw [hx] at h1;cases h1
  | some x=>rw [hx] at h1;rw [show x=some i from h1]
 have h3:((List.range 290).map (fun t=>match (tbl[t]?).join with | some _=>mkTI Tryz.prog t | none=>none))[t]? = some (some i):=by rw [tbl_ok];exact h2
 rw [List.getElem?_map] at h3
 cases hr:(List.range 290)[t]? with
 | none=>rw [hr] at h3;cases h3
 | some y =>
  rw [hr] at h3
  have hy:y=t:=by
   have:=(List.getElem?_eq_some_iff.1 hr).2
   simpa using this.symm
  subst hy
  simp only [Option.map_some,h1,Option.some.injEq] at h3
  exact h3
theorem info5:∃ i0,Tryz.prog.info? 5=some i0∧i0.zero=some (.int .u8 0)∧i0.size=1∧i0.bytes=1:=by
 obtain ⟨info,z,h1,h2,h3,h4,h5,_⟩:=mkTI_info (ty_ok 5 _ (show G.ty 5=some ⟨1,1,.u8,[.u8 0],[.u8],[.u8]⟩ from by kernel_rfl))
 obtain ⟨hue,ei,he1,he2,he3,he4⟩:=isU8_iff (show isU8 Tryz.prog 5=true from by kernel_rfl)
 exact ⟨ei,he1,he4,he2,he3⟩
set_option maxHeartbeats 2000000 in
theorem clone1 (i0:TypeInfo) (hi:Tryz.prog.info? 5=some i0) (hz0:i0.zero=some (.int .u8 0)) (hz1:i0.size=1) (hz2:i0.bytes=1) (a:Addr) (n c:Nat) (xs:List Int) (w:World) (hx:xs.length=n) (hbig:n≤140737488355328) (hc:∀ i,i<n→w.cell? (a.add i)=some (.int .u8 (xs.getD i 0))) :
  Calls Tryz.prog 35 #[.slice (some a) n c] w fun e w'=>∃ v',e = .returned v'∧w'.ownsRow w.heap.size 5 1 v' n (xs.map (Value.int .u8))∧Below w.heap.size w w':=by
 have q22:∀ (w:World) (a:Option Addr) (n c n' c':Nat),(binOp .eql 22 (.slice a n c) (.slice none n' c')).run Tryz.prog w = .ok (.bool a.isNone) w:=fun w a n c n' c'=>Lib.run_eql_slice_nil w _ _ a n c n' c' Tryz.underlying22
 have u22:∀ w,Sem.run Tryz.prog (underlying 22) w = .ok (TypeDesc.slice 5) w:=run_underlying Tryz.underlying22
 have z5:∀ w,Sem.run Tryz.prog (Go.sizeOf 5) w = .ok 1 w:=fun w=>by simp [Go.sizeOf,typeInfo,hi,hz1]
 have A:Aside (∀ i,i<n→w.cell? (a.add i)=some (.int .u8 (xs.getD i 0))):=hc
 clear hc
 go_enter Tryz.func35,Tryz.ntmps35
 go_wp2_with (at_builtin;refine wpList_append_own _ rfl _ _ 22 rfl w.heap.size 5 i0 (.int .u8 0) 1 1 Tryz.underlying22 hi hz0 hz1 hz2 rfl (by decide) _ _ _ rfl (World.ownsRow_made w #[] 0 (Nat.le_refl _) (Nat.zero_le _) rfl) a n c (xs.map (Value.int .u8)) rfl ?qc1 ?qc2 ?qc3 ?qc4 ?qc5 ?qc6 ?_)
 case qc1=>simp;omega
 case qc2 =>
  intro j u hj
  have hjn:j<n:=by
   have:=(List.getElem?_eq_some_iff.1 hj).1
   simp at this
   omega
  refine Lib.cell?_alloc_some _ ?_
  rw [A.out j hjn]
  have e:(xs.map (Value.int .u8))[j]? = some (Value.int .u8 (xs.getD j 0)):=by simp [List.getD,List.getElem?_eq_getElem (show j<xs.length by omega)]
  rw [e] at hj
  exact hj
 case qc3=>intro u hu;obtain ⟨x,_,rfl⟩:=List.mem_map.1 hu;rfl
 case qc4=>unfold maxLen;omega
 case qc5=>omega
 case qc6=>simp
 intro v' w1 hown hgrow hnil
 go_wp2
 go_ret
 refine ⟨v',rfl,by simpa using hown,?_⟩
 exact ((Below.refl _ w).alloc (Nat.le_refl _) _).grown hgrow (by simp) (by intro k hk;simp [Value.ownBlock] at hk;omega)
set_option maxHeartbeats 1000000 in
theorem clone0 (n c:Nat) (w:World):Calls Tryz.prog 35 #[.slice none n c] w fun e w'=>e = .returned (.slice none 0 0)∧w'=w:=by
 have q22:∀ (w:World) (a:Option Addr) (n c n' c':Nat),(binOp .eql 22 (.slice a n c) (.slice none n' c')).run Tryz.prog w = .ok (.bool a.isNone) w:=fun w a n c n' c'=>Lib.run_eql_slice_nil w _ _ a n c n' c' Tryz.underlying22
 go_enter Tryz.func35,Tryz.ntmps35
 go_wp2
 go_ret
 exact ⟨rfl,rfl⟩
theorem g35:Given Tryz.prog G 35 sp35:=by
 obtain ⟨i0,hi0,hz0,hs0,hb0⟩:=info5
 refine given_clone (e:=5) (t:=22) ?_ (by kernel_rfl) clone0 (fun a n c xs w h1 h2 h3=>clone1 i0 hi0 hz0 hs0 hb0 a n c xs w h1 h2 h3) ?_
 ·intro vs w
  obtain ⟨c,hc⟩:=Option.isSome_iff_exists.1 (show Tryz.f35.body.isSome=true from by kernel_rfl)
  have hname : Tryz.f35.name ≠ "runtime.NumGoroutine" := by decide +kernel
  simp [callFunc,Tryz.func35,hname,hc]
 ·intro xs bl r h
  unfold sp35 at h
  split at h
  ·rename_i n
   obtain ⟨h1,h2⟩:=chk_inv h
   cases h2
   exact ⟨n,rfl,of_decide_eq_true h1,rfl,rfl⟩
  ·cases h
theorem all_ok:∀ e∈tabT,Given Tryz.prog G e.1 e.2.2.2∨Walked Tryz.prog G e.1 e.2.1 e.2.2.2:=by
 unfold tabT
 refine List.forall_mem_cons.2 ⟨.inr w6,?_⟩
 refine List.forall_mem_cons.2 ⟨.inr w7,?_⟩
 refine List.forall_mem_cons.2 ⟨.inr w12,?_⟩
 refine List.forall_mem_cons.2 ⟨.inr w13,?_⟩
 refine List.forall_mem_cons.2 ⟨.inr w19,?_⟩
 refine List.forall_mem_cons.2 ⟨.inr w34,?_⟩
 refine List.forall_mem_cons.2 ⟨.inl g35,?_⟩
 refine List.forall_mem_cons.2 ⟨.inr w75,?_⟩
 refine List.forall_mem_cons.2 ⟨.inr w76,?_⟩
 refine List.forall_mem_cons.2 ⟨.inr w11,?_⟩
 refine List.forall_mem_cons.2 ⟨.inr w56,?_⟩
 refine List.forall_mem_cons.2 ⟨.inr w5,?_⟩
 refine List.forall_mem_cons.2 ⟨.inr w22,?_⟩
 refine List.forall_mem_cons.2 ⟨.inr w29,?_⟩
 refine List.forall_mem_cons.2 ⟨.inr w16,?_⟩
 refine List.forall_mem_cons.2 ⟨.inr w33,?_⟩
 refine List.forall_mem_cons.2 ⟨.inr w15,?_⟩
 refine List.forall_mem_cons.2 ⟨.inr w21,?_⟩
 refine List.forall_mem_cons.2 ⟨.inr w9,?_⟩
 refine List.forall_mem_cons.2 ⟨.inr w20,?_⟩
 refine List.forall_mem_cons.2 ⟨.inr w14,?_⟩
 refine List.forall_mem_cons.2 ⟨.inr w8,?_⟩
 refine List.forall_mem_cons.2 ⟨.inr w10,?_⟩
 refine List.forall_mem_cons.2 ⟨.inr w4,?_⟩
 refine List.forall_mem_cons.2 ⟨.inr w3,?_⟩
 exact fun e h=>by cases h
theorem inl_ok : ∀ e ∈ inlT, Tryz.prog.funcs[e.1]? = some e.2 ∧ e.2.name ≠ "runtime.NumGoroutine" := by
 unfold inlT
 refine List.forall_mem_cons.2 ⟨⟨Tryz.func17,by decide +kernel⟩,?_⟩
 exact fun e h=>by cases h
theorem look_mem {α:Type} {k:Nat} {x:α}:∀ {l:List (Nat×α)},look k l=some x→(k,x)∈l
 | [],h=>by cases h
 | (j,y)::r,h=>by
  simp only [look] at h
  cases hb:Nat.beq j k with
  | false=>rw [hb] at h;exact List.mem_cons_of_mem _ (look_mem h)
  | true=>rw [hb] at h;cases h;rw [Nat.eq_of_beq_eq_true hb];exact List.mem_cons_self ..
theorem tab:TabOK Tryz.prog G where
 mixed:=by kernel_rfl
 ty:=ty_ok
 each:=fun f k ct s h=>all_ok (f,k,ct,s) (look_mem h)
 inl:=fun f fn h=>inl_ok (f,fn) (look_mem h)
theorem own:ownKnob Tryz.prog.godebug=none:=by kernel_rfl
theorem laidOut:laidOutB Tryz.prog=true:=by kernel_rfl
end Go.Proofs.YtnhnkpiiacggoaaGreat
