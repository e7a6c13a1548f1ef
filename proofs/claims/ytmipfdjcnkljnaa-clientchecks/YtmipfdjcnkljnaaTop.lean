/- The table is right, and the laws. -/
import Derived.Test.YtmipfdjcnkljnaaWalk1
import Derived.Test.YtmipfdjcnkljnaaWalk2
import Derived.Test.YtmipfdjcnkljnaaAbsPrim
import Derived.Test.YtmipfdjcnkljnaaAbsLaw
import Derived.Test.YtmipfdjcnkljnaaRows
namespace Go.Proofs.Ytmipfdjcnkljnaa
open Go Go.Abs Go.Proofs
open Go.ChangeShapes Go.WideShapes Go.ChangeAt Go.RowKit Go.Lib
set_option linter.unusedVariables false
set_option maxRecDepth 100000
theorem tbl_ok:(List.range 137).map (fun t=>match (tbl[t]?).join with | some _=>mkTI Try.prog t | none=>none)=tbl:=by kernel_rfl
theorem ty_ok:∀ t i,G.ty t=some i→mkTI Try.prog t=some i:=by
 intro t i h
 have h1:(tbl[t]?).join=some i:=h
 have h2:tbl[t]? = some (some i):=by
  cases hx:tbl[t]? with
  | none=>rw [hx] at h1;cases h1
  | some x=>rw [hx] at h1;rw [show x=some i from h1]
 have h3:((List.range 137).map (fun t=>match (tbl[t]?).join with | some _=>mkTI Try.prog t | none=>none))[t]? = some (some i):=by rw [tbl_ok];exact h2
 rw [List.getElem?_map] at h3
 cases hr:(List.range 137)[t]? with
 | none=>rw [hr] at h3;cases h3
 | some y =>
  rw [hr] at h3
  have hy:y=t:=by
   have:=(List.getElem?_eq_some_iff.1 hr).2
   simpa using this.symm
  subst hy
  simp only [Option.map_some,h1,Option.some.injEq] at h3
  exact h3
theorem grow0 (a:Option Addr) (w:World):Calls Try.prog 81 #[.slice a 0 0,.int .i64 0] w fun e w'=>e = .returned (.slice a 0 0)∧w'=w:=by
 go_enter Try.func81,Try.ntmps81
 go_wp2
 go_ret
 exact ⟨rfl,rfl⟩
set_option maxHeartbeats 4000000 in
theorem grow1 (i0:TypeInfo) (z:Value) (hi0:Try.prog.info? 5=some i0) (hz0:i0.zero=some z) (hs0:i0.size=1) (hb0:i0.bytes=1) (a:Option Addr) (n:Nat) (w:World) (h0:0<n) (hn:n≤140737488355328):Calls Try.prog 81 #[.slice a 0 0,.int .i64 n] w fun e w' =>
   e = .returned (.slice (some ⟨w.heap.size,0,none⟩) 0 (grownCap w n 0 5)) ∧
   w'=w.drew.alloc (.cells (#[]++Builtin.zeroCells z.cells n++Builtin.zeroCells z.cells (grownCap w n 0 5-n)) 5):=by
 have h1:¬ ((n:Int)<0):=by omega
 have h3:wrap64 ((n:Int))=(n:Int):=by unfold wrap64;omega
 have h4:(n:Int)>0:=by omega
 have hold:(Builtin.firstCells i0.size 0 (.slice a 0 0)).run Try.prog w.drew = .ok #[] w.drew:=by
  cases a with
  | none=>exact run_firstCells_none w.drew i0.size 0 0 0
  | some a=>exact run_firstCells_some w.drew i0.size 0 a 0 0 [] (by simp) (fun j v hj=>by simp at hj)
 have hfit:Builtin.nextslicecap (0+n) 0*i0.bytes≤281474976710656:=growslice_fits (by omega) (by rw [hb0];omega)
 have hrz:∀ ty,(Builtin.append_ #[31,3] ty #[.slice a 0 0,.int .i64 (n:Int)]).run Try.prog w =
   .ok (.slice (some ⟨w.heap.size,0,none⟩) n (grownCap w n 0 5)) (w.drew.alloc (.cells (#[]++Builtin.zeroCells z.cells n++Builtin.zeroCells z.cells (grownCap w n 0 5-n)) 5)):=fun ty=>by
  have h:=Lib.run_append_grow_zeros w 31 3 ty 5 i0 z .i64 .i64 Try.underlying31 Try.underlying3 hi0 hz0 a 0 0 [] hold n h0 (by omega) (by omega) (by omega) (by rw [hb0];omega) hfit
  simpa using h
 clear hold hfit
 go_enter Try.func81,Try.ntmps81
 cases a with
 | none =>
  go_wp2_with (at_builtin;refine Lib.wpList_append_run _ rfl _ _ _ _ rfl _ _ rfl rfl _ _ (hrz _) ?_)
  all_goals (go_ret;exact ⟨rfl,rfl⟩)
 | some a =>
  obtain ⟨ab,ao,asp⟩:=a
  go_wp2_with (at_builtin;refine Lib.wpList_append_run _ rfl _ _ _ _ rfl _ _ rfl rfl _ _ (hrz _) ?_)
  all_goals (go_ret;exact ⟨rfl,rfl⟩)
theorem info5:∃ i0,Try.prog.info? 5=some i0∧i0.zero=some (.int .u8 0)∧i0.size=1∧i0.bytes=1:=by
 obtain ⟨info,z,h1,h2,h3,h4,h5,_⟩:=mkTI_info (ty_ok 5 _ (show G.ty 5=some ⟨1,1,.u8,[.u8 0],[.u8],[.u8]⟩ from by kernel_rfl))
 obtain ⟨hue,ei,he1,he2,he3,he4⟩:=isU8_iff (show isU8 Try.prog 5=true from by kernel_rfl)
 exact ⟨ei,he1,he4,he2,he3⟩
theorem g81:Given Try.prog G 81 sp81:=by
 obtain ⟨i0,hi0,hz0,hs0,hb0⟩:=info5
 refine given_grow (e:=5) (t:=31) (cap:=fun w n=>grownCap w n 0 5) (cells:=fun w n => #[]++Builtin.zeroCells (Value.int .u8 0).cells n++Builtin.zeroCells (Value.int .u8 0).cells (grownCap w n 0 5-n)) ?_ (by kernel_rfl) (i:=⟨1,24,.slice 5 true,[.nils],[.bsl],[]⟩) (by kernel_rfl) rfl grow0 (fun a n w h1 h2=>grow1 i0 _ hi0 hz0 hs0 hb0 a n w h1 h2) ?_ ?_
 ·intro vs w
  obtain ⟨c,hc⟩:=Option.isSome_iff_exists.1 (show Try.f81.body.isSome=true from by kernel_rfl)
  have hname : Try.f81.name ≠ "runtime.NumGoroutine" := by decide +kernel
  simp [callFunc,Try.func81,hname,hc]
 ·intro w n h1 h2
  have hge:=grownCap_ge w n 0 5
  refine ⟨hge,grownCap_le_maxLen w n 0 5 (by unfold maxLen;omega),?_⟩
  simp [Builtin.zeroCells,Value.cells]
  omega
 ·intro xs bl r h
  unfold sp81 at h
  split at h
  ·rename_i n
   obtain ⟨h1,h2⟩:=chk_inv h
   simp only [Bool.and_eq_true,decide_eq_true_eq] at h1
   cases h2
   exact ⟨n,rfl,h1.1,h1.2,rfl,rfl⟩
  ·cases h
theorem g91:Given Try.prog G 91 sp91 :=
 given_indexString Try.func91 (by decide +kernel) (by kernel_rfl) (by kernel_rfl) (by kernel_rfl) (rt:=3) (by kernel_rfl) (fun xs bl r h=>by
  unfold sp91 at h
  split at h
  ·cases h;exact ⟨_,_,rfl,rfl,rfl⟩
  ·cases h)
set_option maxHeartbeats 2000000 in
theorem clone1 (i0:TypeInfo) (hi:Try.prog.info? 5=some i0) (hz0:i0.zero=some (.int .u8 0)) (hz1:i0.size=1) (hz2:i0.bytes=1) (a:Addr) (n c:Nat) (xs:List Int) (w:World) (hx:xs.length=n) (hbig:n≤140737488355328) (hc:∀ i,i<n→w.cell? (a.add i)=some (.int .u8 (xs.getD i 0))) :
  Calls Try.prog 82 #[.slice (some a) n c] w fun e w'=>∃ v',e = .returned v'∧w'.ownsRow w.heap.size 5 1 v' n (xs.map (Value.int .u8))∧Below w.heap.size w w':=by
 have q22:∀ (w:World) (a:Option Addr) (n c n' c':Nat),(binOp .eql 31 (.slice a n c) (.slice none n' c')).run Try.prog w = .ok (.bool a.isNone) w:=fun w a n c n' c'=>Lib.run_eql_slice_nil w _ _ a n c n' c' Try.underlying31
 have u22:∀ w,Sem.run Try.prog (underlying 31) w = .ok (TypeDesc.slice 5) w:=run_underlying Try.underlying31
 have z5:∀ w,Sem.run Try.prog (Go.sizeOf 5) w = .ok 1 w:=fun w=>by simp [Go.sizeOf,typeInfo,hi,hz1]
 have A:Aside (∀ i,i<n→w.cell? (a.add i)=some (.int .u8 (xs.getD i 0))):=hc
 clear hc
 go_enter Try.func82,Try.ntmps82
 go_wp2_with (at_builtin;refine wpList_append_own _ rfl _ _ 31 rfl w.heap.size 5 i0 (.int .u8 0) 1 1 Try.underlying31 hi hz0 hz1 hz2 rfl (by decide) _ _ _ rfl (World.ownsRow_made w #[] 0 (Nat.le_refl _) (Nat.zero_le _) rfl) a n c (xs.map (Value.int .u8)) rfl ?qc1 ?qc2 ?qc3 ?qc4 ?qc5 ?qc6 ?_)
 case qc1=>simp;omega
 case qc2 =>
  intro j u hj
  have hjn:j<n:=by
   have:=(List.getElem?_eq_some_iff.1 hj).1
   simp at this
   omega
  refine Lib.cell?_alloc_some _ ?_
  rw [A.out j hjn]
  have e:(xs.map (Value.int .u8))[j]? = some (Value.int .u8 (xs.getD j 0)):=by simp [List.getD,List.getElem?_eq_getElem (show j<xs.length by omega)]
  rw [e] at hj
  exact hj
 case qc3=>intro u hu;obtain ⟨x,_,rfl⟩:=List.mem_map.1 hu;rfl
 case qc4=>unfold maxLen;omega
 case qc5=>omega
 case qc6=>simp
 intro v' w1 hown hgrow hnil
 go_wp2
 go_ret
 refine ⟨v',rfl,by simpa using hown,?_⟩
 exact ((Below.refl _ w).alloc (Nat.le_refl _) _).grown hgrow (by simp) (by intro k hk;simp [Value.ownBlock] at hk;omega)
set_option maxHeartbeats 1000000 in
theorem clone0 (n c:Nat) (w:World):Calls Try.prog 82 #[.slice none n c] w fun e w'=>e = .returned (.slice none 0 0)∧w'=w:=by
 have q22:∀ (w:World) (a:Option Addr) (n c n' c':Nat),(binOp .eql 31 (.slice a n c) (.slice none n' c')).run Try.prog w = .ok (.bool a.isNone) w:=fun w a n c n' c'=>Lib.run_eql_slice_nil w _ _ a n c n' c' Try.underlying31
 go_enter Try.func82,Try.ntmps82
 go_wp2
 go_ret
 exact ⟨rfl,rfl⟩
theorem g82:Given Try.prog G 82 sp82:=by
 obtain ⟨i0,hi0,hz0,hs0,hb0⟩:=info5
 refine given_clone (e:=5) (t:=31) ?_ (by kernel_rfl) clone0 (fun a n c xs w h1 h2 h3=>clone1 i0 hi0 hz0 hs0 hb0 a n c xs w h1 h2 h3) ?_
 ·intro vs w
  obtain ⟨c,hc⟩:=Option.isSome_iff_exists.1 (show Try.f82.body.isSome=true from by kernel_rfl)
  have hname : Try.f82.name ≠ "runtime.NumGoroutine" := by decide +kernel
  simp [callFunc,Try.func82,hname,hc]
 ·intro xs bl r h
  unfold sp82 at h
  split at h
  ·rename_i n
   obtain ⟨h1,h2⟩:=chk_inv h
   cases h2
   exact ⟨n,rfl,of_decide_eq_true h1,rfl,rfl⟩
  ·cases h
theorem all_ok:∀ e∈tabT,Given Try.prog G e.1 e.2.2.2∨Walked Try.prog G e.1 e.2.1 e.2.2.2:=by
 unfold tabT
 refine List.forall_mem_cons.2 ⟨.inr w6,?_⟩
 refine List.forall_mem_cons.2 ⟨.inr w20,?_⟩
 refine List.forall_mem_cons.2 ⟨.inr w22,?_⟩
 refine List.forall_mem_cons.2 ⟨.inr w24,?_⟩
 refine List.forall_mem_cons.2 ⟨.inr w30,?_⟩
 refine List.forall_mem_cons.2 ⟨.inr w31,?_⟩
 refine List.forall_mem_cons.2 ⟨.inr w33,?_⟩
 refine List.forall_mem_cons.2 ⟨.inr w41,?_⟩
 refine List.forall_mem_cons.2 ⟨.inr w42,?_⟩
 refine List.forall_mem_cons.2 ⟨.inr w43,?_⟩
 refine List.forall_mem_cons.2 ⟨.inr w46,?_⟩
 refine List.forall_mem_cons.2 ⟨.inr w47,?_⟩
 refine List.forall_mem_cons.2 ⟨.inr w49,?_⟩
 refine List.forall_mem_cons.2 ⟨.inr w50,?_⟩
 refine List.forall_mem_cons.2 ⟨.inr w51,?_⟩
 refine List.forall_mem_cons.2 ⟨.inr w61,?_⟩
 refine List.forall_mem_cons.2 ⟨.inr w66,?_⟩
 refine List.forall_mem_cons.2 ⟨.inr w67,?_⟩
 refine List.forall_mem_cons.2 ⟨.inr w69,?_⟩
 refine List.forall_mem_cons.2 ⟨.inr w70,?_⟩
 refine List.forall_mem_cons.2 ⟨.inr w78,?_⟩
 refine List.forall_mem_cons.2 ⟨.inr w79,?_⟩
 refine List.forall_mem_cons.2 ⟨.inr w80,?_⟩
 refine List.forall_mem_cons.2 ⟨.inl g81,?_⟩
 refine List.forall_mem_cons.2 ⟨.inl g82,?_⟩
 refine List.forall_mem_cons.2 ⟨.inr w83,?_⟩
 refine List.forall_mem_cons.2 ⟨.inr w84,?_⟩
 refine List.forall_mem_cons.2 ⟨.inr w87,?_⟩
 refine List.forall_mem_cons.2 ⟨.inr w88,?_⟩
 refine List.forall_mem_cons.2 ⟨.inr w90,?_⟩
 refine List.forall_mem_cons.2 ⟨.inl g91,?_⟩
 refine List.forall_mem_cons.2 ⟨.inr w5,?_⟩
 refine List.forall_mem_cons.2 ⟨.inr w14,?_⟩
 refine List.forall_mem_cons.2 ⟨.inr w15,?_⟩
 refine List.forall_mem_cons.2 ⟨.inr w25,?_⟩
 refine List.forall_mem_cons.2 ⟨.inr w26,?_⟩
 refine List.forall_mem_cons.2 ⟨.inr w48,?_⟩
 refine List.forall_mem_cons.2 ⟨.inr w52,?_⟩
 refine List.forall_mem_cons.2 ⟨.inr w63,?_⟩
 refine List.forall_mem_cons.2 ⟨.inr w64,?_⟩
 refine List.forall_mem_cons.2 ⟨.inr w65,?_⟩
 refine List.forall_mem_cons.2 ⟨.inr w68,?_⟩
 refine List.forall_mem_cons.2 ⟨.inr w72,?_⟩
 refine List.forall_mem_cons.2 ⟨.inr w73,?_⟩
 refine List.forall_mem_cons.2 ⟨.inr w74,?_⟩
 refine List.forall_mem_cons.2 ⟨.inr w89,?_⟩
 refine List.forall_mem_cons.2 ⟨.inr w9,?_⟩
 refine List.forall_mem_cons.2 ⟨.inr w10,?_⟩
 refine List.forall_mem_cons.2 ⟨.inr w18,?_⟩
 refine List.forall_mem_cons.2 ⟨.inr w40,?_⟩
 refine List.forall_mem_cons.2 ⟨.inr w45,?_⟩
 refine List.forall_mem_cons.2 ⟨.inr w56,?_⟩
 refine List.forall_mem_cons.2 ⟨.inr w57,?_⟩
 refine List.forall_mem_cons.2 ⟨.inr w58,?_⟩
 refine List.forall_mem_cons.2 ⟨.inr w71,?_⟩
 refine List.forall_mem_cons.2 ⟨.inr w77,?_⟩
 refine List.forall_mem_cons.2 ⟨.inr w86,?_⟩
 refine List.forall_mem_cons.2 ⟨.inr w23,?_⟩
 refine List.forall_mem_cons.2 ⟨.inr w29,?_⟩
 refine List.forall_mem_cons.2 ⟨.inr w34,?_⟩
 refine List.forall_mem_cons.2 ⟨.inr w44,?_⟩
 refine List.forall_mem_cons.2 ⟨.inr w53,?_⟩
 refine List.forall_mem_cons.2 ⟨.inr w54,?_⟩
 refine List.forall_mem_cons.2 ⟨.inr w55,?_⟩
 refine List.forall_mem_cons.2 ⟨.inr w62,?_⟩
 refine List.forall_mem_cons.2 ⟨.inr w76,?_⟩
 refine List.forall_mem_cons.2 ⟨.inr w8,?_⟩
 refine List.forall_mem_cons.2 ⟨.inr w27,?_⟩
 refine List.forall_mem_cons.2 ⟨.inr w37,?_⟩
 refine List.forall_mem_cons.2 ⟨.inr w38,?_⟩
 refine List.forall_mem_cons.2 ⟨.inr w11,?_⟩
 refine List.forall_mem_cons.2 ⟨.inr w13,?_⟩
 refine List.forall_mem_cons.2 ⟨.inr w39,?_⟩
 refine List.forall_mem_cons.2 ⟨.inr w19,?_⟩
 refine List.forall_mem_cons.2 ⟨.inr w60,?_⟩
 refine List.forall_mem_cons.2 ⟨.inr w21,?_⟩
 refine List.forall_mem_cons.2 ⟨.inr w28,?_⟩
 refine List.forall_mem_cons.2 ⟨.inr w32,?_⟩
 refine List.forall_mem_cons.2 ⟨.inr w36,?_⟩
 refine List.forall_mem_cons.2 ⟨.inr w85,?_⟩
 refine List.forall_mem_cons.2 ⟨.inr w7,?_⟩
 refine List.forall_mem_cons.2 ⟨.inr w12,?_⟩
 refine List.forall_mem_cons.2 ⟨.inr w75,?_⟩
 refine List.forall_mem_cons.2 ⟨.inr w16,?_⟩
 refine List.forall_mem_cons.2 ⟨.inr w59,?_⟩
 refine List.forall_mem_cons.2 ⟨.inr w35,?_⟩
 refine List.forall_mem_cons.2 ⟨.inr w17,?_⟩
 refine List.forall_mem_cons.2 ⟨.inr w4,?_⟩
 refine List.forall_mem_cons.2 ⟨.inr w3,?_⟩
 exact fun e h=>by cases h
theorem inl_ok : ∀ e ∈ inlT, Try.prog.funcs[e.1]? = some e.2 ∧ e.2.name ≠ "runtime.NumGoroutine" := by
 unfold inlT
 exact fun e h=>by cases h
theorem look_mem {α:Type} {k:Nat} {x:α}:∀ {l:List (Nat×α)},look k l=some x→(k,x)∈l
 | [],h=>by cases h
 | (j,y)::r,h=>by
  simp only [look] at h
  cases hb:Nat.beq j k with
  | false=>rw [hb] at h;exact List.mem_cons_of_mem _ (look_mem h)
  | true=>rw [hb] at h;cases h;rw [Nat.eq_of_beq_eq_true hb];exact List.mem_cons_self ..
theorem tab:TabOK Try.prog G where
 mixed:=by kernel_rfl
 ty:=ty_ok
 each:=fun f k ct s h=>all_ok (f,k,ct,s) (look_mem h)
 inl:=fun f fn h=>inl_ok (f,fn) (look_mem h)
theorem own:ownKnob Try.prog.godebug=none:=by kernel_rfl
theorem laidOut:laidOutB Try.prog=true:=by kernel_rfl
end Go.Proofs.Ytmipfdjcnkljnaa
