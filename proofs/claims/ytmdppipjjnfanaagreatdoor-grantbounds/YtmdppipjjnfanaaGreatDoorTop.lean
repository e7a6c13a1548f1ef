/- The table is right, and the laws. -/
import Derived.Test.YtmdppipjjnfanaaGreatDoorWalk1
import Derived.Test.YtmdppipjjnfanaaGreatDoorWalk2
import Derived.Test.YtmdppipjjnfanaaGreatDoorWalk3
import Derived.Test.YtmdppipjjnfanaaGreatDoorWalk4
import Derived.Test.YtmdppipjjnfanaaGreatDoorWalk5
import Derived.Test.YtmdppipjjnfanaaGreatDoorAbsPrim
import Derived.Test.YtmdppipjjnfanaaGreatDoorAbsLaw
import Derived.Test.YtmdppipjjnfanaaGreatDoorRows
open Nat renaming le_refl→Zz
namespace Go.Proofs.YtmdppipjjnfanaaGreatDoor
open Go Go.Abs Go.Proofs
open Go.ChangeShapes Go.WideShapes Go.ChangeAt Go.RowKit Go.Lib
set_option linter.unusedVariables false
set_option maxRecDepth 100000
theorem tbl_ok:(List.range 246).map (fun t=>match (tbl[t]?).join with | some _=>mkTI Tryz.prog t | none=>none)=tbl:=by kernel_rfl
theorem ty_ok:∀ t i,G.ty t=some i→mkTI Tryz.prog t=some i:=by
 intro t i h
 have h1:(tbl[t]?).join=some i:=h
 have h2:tbl[t]? = some (some i):=by
  cases hx:tbl[t]? with
  | none=>rw [hx] at h1;cases h1
  | some x=>rw [hx] at h1;rw [show x=some i from h1]
 have h3:((List.range 246).map (fun t=>match (tbl[t]?).join with | some _=>mkTI Tryz.prog t | none=>none))[t]? = some (some i):=by rw [tbl_ok];exact h2
 rw [List.getElem?_map] at h3
 cases hr:(List.range 246)[t]? with
 | none=>rw [hr] at h3;cases h3
 | some y =>
  rw [hr] at h3
  have hy:y=t:=by
   have:=(List.getElem?_eq_some_iff.1 hr).2
   simpa using this.symm
  subst hy
  simp only [Option.map_some,h1,Option.some.injEq] at h3
  exact h3
theorem g150:Given Tryz.prog G 150 sp150 :=
 given_index Tryz.func150 (by decide +kernel) (by kernel_rfl) (by kernel_rfl) (by kernel_rfl) (rt:=3) (by kernel_rfl) (fun xs bl r h=>by
  unfold sp150 at h
  split at h
  ·cases h;exact ⟨_,_,rfl,rfl,rfl⟩
  ·cases h)
theorem grow0 (a:Option Addr) (w:World):Calls Tryz.prog 176 #[.slice a 0 0,.int .i64 0] w fun e w'=>e = .returned (.slice a 0 0)∧w'=w:=by
 go_enter Tryz.func176,Tryz.ntmps176
 go_wp2
 go_ret
 exact ⟨rfl,rfl⟩
set_option maxHeartbeats 4000000 in
theorem grow1 (i0:TypeInfo) (z:Value) (hi0:Tryz.prog.info? 5=some i0) (hz0:i0.zero=some z) (hs0:i0.size=1) (hb0:i0.bytes=1) (a:Option Addr) (n:Nat) (w:World) (h0:0<n) (hn:n≤140737488355328):Calls Tryz.prog 176 #[.slice a 0 0,.int .i64 n] w fun e w' =>
   e = .returned (.slice (some ⟨w.heap.size,0,none⟩) 0 (grownCap w n 0 5)) ∧
   w'=w.drew.alloc (.cells (#[]++Builtin.zeroCells z.cells n++Builtin.zeroCells z.cells (grownCap w n 0 5-n)) 5):=by
 have h1:¬ ((n:Int)<0):=by omega
 have h3:wrap64 ((n:Int))=(n:Int):=by unfold wrap64;omega
 have h4:(n:Int)>0:=by omega
 have hold:(Builtin.firstCells i0.size 0 (.slice a 0 0)).run Tryz.prog w.drew = .ok #[] w.drew:=by
  cases a with
  | none=>exact run_firstCells_none w.drew i0.size 0 0 0
  | some a=>exact run_firstCells_some w.drew i0.size 0 a 0 0 [] (by simp) (fun j v hj=>by simp at hj)
 have hfit:Builtin.nextslicecap (0+n) 0*i0.bytes≤281474976710656:=growslice_fits (by omega) (by rw [hb0];omega)
 have hrz:∀ ty,(Builtin.append_ #[22,3] ty #[.slice a 0 0,.int .i64 (n:Int)]).run Tryz.prog w =
   .ok (.slice (some ⟨w.heap.size,0,none⟩) n (grownCap w n 0 5)) (w.drew.alloc (.cells (#[]++Builtin.zeroCells z.cells n++Builtin.zeroCells z.cells (grownCap w n 0 5-n)) 5)):=fun ty=>by
  have h:=Lib.run_append_grow_zeros w 22 3 ty 5 i0 z .i64 .i64 Tryz.underlying22 Tryz.underlying3 hi0 hz0 a 0 0 [] hold n h0 (by omega) (by omega) (by omega) (by rw [hb0];omega) hfit
  simpa using h
 clear hold hfit
 go_enter Tryz.func176,Tryz.ntmps176
 cases a with
 | none =>
  go_wp2_with (at_builtin;refine Lib.wpList_append_run _ rfl _ _ _ _ rfl _ _ rfl rfl _ _ (hrz _) ?_)
  all_goals (go_ret;exact ⟨rfl,rfl⟩)
 | some a =>
  obtain ⟨ab,ao,asp⟩:=a
  go_wp2_with (at_builtin;refine Lib.wpList_append_run _ rfl _ _ _ _ rfl _ _ rfl rfl _ _ (hrz _) ?_)
  all_goals (go_ret;exact ⟨rfl,rfl⟩)
theorem info5:∃ i0,Tryz.prog.info? 5=some i0∧i0.zero=some (.int .u8 0)∧i0.size=1∧i0.bytes=1:=by
 obtain ⟨info,z,h1,h2,h3,h4,h5,_⟩:=mkTI_info (ty_ok 5 _ (show G.ty 5=some ⟨1,1,.u8,[.u8 0],[.u8],[.u8]⟩ from by kernel_rfl))
 obtain ⟨hue,ei,he1,he2,he3,he4⟩:=isU8_iff (show isU8 Tryz.prog 5=true from by kernel_rfl)
 exact ⟨ei,he1,he4,he2,he3⟩
theorem g176:Given Tryz.prog G 176 sp176:=by
 obtain ⟨i0,hi0,hz0,hs0,hb0⟩:=info5
 refine given_grow (e:=5) (t:=22) (cap:=fun w n=>grownCap w n 0 5) (cells:=fun w n => #[]++Builtin.zeroCells (Value.int .u8 0).cells n++Builtin.zeroCells (Value.int .u8 0).cells (grownCap w n 0 5-n)) ?_ (by kernel_rfl) (i:=⟨1,24,.slice 5 true,[.nils],[.bsl],[]⟩) (by kernel_rfl) rfl grow0 (fun a n w h1 h2=>grow1 i0 _ hi0 hz0 hs0 hb0 a n w h1 h2) ?_ ?_
 ·intro vs w
  obtain ⟨c,hc⟩:=Option.isSome_iff_exists.1 (show Tryz.f176.body.isSome=true from by kernel_rfl)
  have hname : Tryz.f176.name ≠ "runtime.NumGoroutine" := by decide +kernel
  simp [callFunc,Tryz.func176,hname,hc]
 ·intro w n h1 h2
  have hge:=grownCap_ge w n 0 5
  refine ⟨hge,grownCap_le_maxLen w n 0 5 (by unfold maxLen;omega),?_⟩
  simp [Builtin.zeroCells,Value.cells]
  omega
 ·intro xs bl r h
  unfold sp176 at h
  split at h
  ·rename_i n
   obtain ⟨h1,h2⟩:=chk_inv h
   simp only [Bool.and_eq_true,decide_eq_true_eq] at h1
   cases h2
   exact ⟨n,rfl,h1.1,h1.2,rfl,rfl⟩
  ·cases h
theorem g182:Given Tryz.prog G 182 sp182 :=
 given_indexString Tryz.func182 (by decide +kernel) (by kernel_rfl) (by kernel_rfl) (by kernel_rfl) (rt:=3) (by kernel_rfl) (fun xs bl r h=>by
  unfold sp182 at h
  split at h
  ·cases h;exact ⟨_,_,rfl,rfl,rfl⟩
  ·cases h)
set_option maxHeartbeats 2000000 in
theorem cloneS1_25 (i0:TypeInfo) (hi:Tryz.prog.info? 86=some i0) (z:Value) (hz0:i0.zero=some z) (hz1:i0.size=5) (hz2:i0.bytes=64) (hzs:z.cells.size=5) (a:Addr) (n c:Nat) (xs:List Value) (w:World) (hx:xs.length=n*5) (hbig:n≤1000000) (hc:∀ j u,xs[j]? = some u→w.cell? (a.add j)=some u) (hone:∀ u∈xs,u.oneCell'=true) :
  Calls Tryz.prog 25 #[.slice (some a) n c] w fun e w'=>∃ v',e = .returned v'∧w'.ownsRow w.heap.size 86 5 v' n xs∧Below w.heap.size w w':=by
 have q22:∀ (w:World) (a:Option Addr) (n c n' c':Nat),(binOp .eql 37 (.slice a n c) (.slice none n' c')).run Tryz.prog w = .ok (.bool a.isNone) w:=fun w a n c n' c'=>Lib.run_eql_slice_nil w _ _ a n c n' c' Tryz.underlying37
 have u22:∀ w,Sem.run Tryz.prog (underlying 37) w = .ok (TypeDesc.slice 86) w:=run_underlying Tryz.underlying37
 have z5:∀ w,Sem.run Tryz.prog (Go.sizeOf 86) w = .ok 5 w:=fun w=>by simp [Go.sizeOf,typeInfo,hi,hz1]
 have A:Aside (∀ j u,xs[j]? = some u→w.cell? (a.add j)=some u):=hc
 clear hc
 go_enter Tryz.func25,Tryz.ntmps25
 go_wp2_with (at_builtin;refine wpList_append_own _ rfl _ _ 37 rfl w.heap.size 86 i0 z 5 64 Tryz.underlying37 hi hz0 hz1 hz2 hzs (by decide) _ _ _ rfl (World.ownsRow_made w #[] 0 (Zz _) (Nat.zero_le _) rfl) a n c xs rfl ?qc1 ?qc2 ?qc3 ?qc4 ?qc5 ?qc6 ?_)
 case qc1=>exact hx
 case qc2 =>
  intro j u hj
  exact Lib.cell?_alloc_some _ (A.out j u hj)
 case qc3=>exact hone
 case qc4=>unfold maxLen;omega
 case qc5=>omega
 case qc6=>simp
 intro v' w1 hown hgrow hnil
 go_wp2
 go_ret
 refine ⟨v',rfl,by simpa using hown,?_⟩
 exact ((Below.refl _ w).alloc (Zz _) _).grown hgrow (by simp) (by intro k hk;simp [Value.ownBlock] at hk;omega)
set_option maxHeartbeats 1000000 in
theorem cloneS0_25 (n c:Nat) (w:World):Calls Tryz.prog 25 #[.slice none n c] w fun e w'=>e = .returned (.slice none 0 0)∧w'=w:=by
 have q22:∀ (w:World) (a:Option Addr) (n c n' c':Nat),(binOp .eql 37 (.slice a n c) (.slice none n' c')).run Tryz.prog w = .ok (.bool a.isNone) w:=fun w a n c n' c'=>Lib.run_eql_slice_nil w _ _ a n c n' c' Tryz.underlying37
 go_enter Tryz.func25,Tryz.ntmps25
 go_wp2
 go_ret
 exact ⟨rfl,rfl⟩
theorem g25:Given Tryz.prog G 25 sp25:=by
 obtain ⟨ei,hei⟩:=Option.isSome_iff_exists.1 (show (G.ty 86).isSome=true from by kernel_rfl)
 obtain ⟨i2,hi2⟩:=Option.isSome_iff_exists.1 (show (G.ty 37).isSome=true from by kernel_rfl)
 have q:(G.ty 86).map (fun i=>(i.size,i.bytes))=some (5,64)∧(G.ty 37).map (·.kind)=some (.slice 86 false):=⟨by kernel_rfl,by kernel_rfl⟩
 rw [hei,hi2] at q
 obtain ⟨q1,q2⟩:=q
 simp only [Option.map_some,Option.some.injEq,Prod.mk.injEq] at q1 q2
 obtain ⟨hn,hm⟩:=q1
 obtain ⟨i0,z,hi0,hs0,hb0,hz0,hof,hzl,_⟩:=mkTI_info (ty_ok 86 _ hei)
 have hzs:z.cells.size=5:=by
  have:=(ofCells_rep (w:=(default:World)) (p:=fun _=>0) hof).len
  rw [hzl,hn] at this
  simpa using this
 refine given_cloneS (e:=86) (t:=37) (size:=5) ?_ (by kernel_rfl) hi2 q2 hei hn (by decide) cloneS0_25 (fun a n c xs w h1 h2 h3 h4=>cloneS1_25 i0 hi0 z hz0 (hs0.trans hn) (hb0.trans hm) hzs a n c xs w h1 h2 h3 h4) ?_
 ·intro vs w
  obtain ⟨c,hc⟩:=Option.isSome_iff_exists.1 (show Tryz.f25.body.isSome=true from by kernel_rfl)
  have hname : Tryz.f25.name ≠ "runtime.NumGoroutine" := by decide +kernel
  simp [callFunc,Tryz.func25,hname,hc]
 ·intro xs bl r h
  unfold sp25 at h
  split at h
  ·rename_i els
   obtain ⟨h1,h2⟩:=chk_inv h
   cases h2
   exact ⟨els,rfl,of_decide_eq_true h1,rfl,rfl⟩
  ·cases h
set_option maxHeartbeats 2000000 in
theorem cloneS1_26 (i0:TypeInfo) (hi:Tryz.prog.info? 90=some i0) (z:Value) (hz0:i0.zero=some z) (hz1:i0.size=5) (hz2:i0.bytes=64) (hzs:z.cells.size=5) (a:Addr) (n c:Nat) (xs:List Value) (w:World) (hx:xs.length=n*5) (hbig:n≤1000000) (hc:∀ j u,xs[j]? = some u→w.cell? (a.add j)=some u) (hone:∀ u∈xs,u.oneCell'=true) :
  Calls Tryz.prog 26 #[.slice (some a) n c] w fun e w'=>∃ v',e = .returned v'∧w'.ownsRow w.heap.size 90 5 v' n xs∧Below w.heap.size w w':=by
 have q22:∀ (w:World) (a:Option Addr) (n c n' c':Nat),(binOp .eql 38 (.slice a n c) (.slice none n' c')).run Tryz.prog w = .ok (.bool a.isNone) w:=fun w a n c n' c'=>Lib.run_eql_slice_nil w _ _ a n c n' c' Tryz.underlying38
 have u22:∀ w,Sem.run Tryz.prog (underlying 38) w = .ok (TypeDesc.slice 90) w:=run_underlying Tryz.underlying38
 have z5:∀ w,Sem.run Tryz.prog (Go.sizeOf 90) w = .ok 5 w:=fun w=>by simp [Go.sizeOf,typeInfo,hi,hz1]
 have A:Aside (∀ j u,xs[j]? = some u→w.cell? (a.add j)=some u):=hc
 clear hc
 go_enter Tryz.func26,Tryz.ntmps26
 go_wp2_with (at_builtin;refine wpList_append_own _ rfl _ _ 38 rfl w.heap.size 90 i0 z 5 64 Tryz.underlying38 hi hz0 hz1 hz2 hzs (by decide) _ _ _ rfl (World.ownsRow_made w #[] 0 (Zz _) (Nat.zero_le _) rfl) a n c xs rfl ?qc1 ?qc2 ?qc3 ?qc4 ?qc5 ?qc6 ?_)
 case qc1=>exact hx
 case qc2 =>
  intro j u hj
  exact Lib.cell?_alloc_some _ (A.out j u hj)
 case qc3=>exact hone
 case qc4=>unfold maxLen;omega
 case qc5=>omega
 case qc6=>simp
 intro v' w1 hown hgrow hnil
 go_wp2
 go_ret
 refine ⟨v',rfl,by simpa using hown,?_⟩
 exact ((Below.refl _ w).alloc (Zz _) _).grown hgrow (by simp) (by intro k hk;simp [Value.ownBlock] at hk;omega)
set_option maxHeartbeats 1000000 in
theorem cloneS0_26 (n c:Nat) (w:World):Calls Tryz.prog 26 #[.slice none n c] w fun e w'=>e = .returned (.slice none 0 0)∧w'=w:=by
 have q22:∀ (w:World) (a:Option Addr) (n c n' c':Nat),(binOp .eql 38 (.slice a n c) (.slice none n' c')).run Tryz.prog w = .ok (.bool a.isNone) w:=fun w a n c n' c'=>Lib.run_eql_slice_nil w _ _ a n c n' c' Tryz.underlying38
 go_enter Tryz.func26,Tryz.ntmps26
 go_wp2
 go_ret
 exact ⟨rfl,rfl⟩
theorem g26:Given Tryz.prog G 26 sp26:=by
 obtain ⟨ei,hei⟩:=Option.isSome_iff_exists.1 (show (G.ty 90).isSome=true from by kernel_rfl)
 obtain ⟨i2,hi2⟩:=Option.isSome_iff_exists.1 (show (G.ty 38).isSome=true from by kernel_rfl)
 have q:(G.ty 90).map (fun i=>(i.size,i.bytes))=some (5,64)∧(G.ty 38).map (·.kind)=some (.slice 90 false):=⟨by kernel_rfl,by kernel_rfl⟩
 rw [hei,hi2] at q
 obtain ⟨q1,q2⟩:=q
 simp only [Option.map_some,Option.some.injEq,Prod.mk.injEq] at q1 q2
 obtain ⟨hn,hm⟩:=q1
 obtain ⟨i0,z,hi0,hs0,hb0,hz0,hof,hzl,_⟩:=mkTI_info (ty_ok 90 _ hei)
 have hzs:z.cells.size=5:=by
  have:=(ofCells_rep (w:=(default:World)) (p:=fun _=>0) hof).len
  rw [hzl,hn] at this
  simpa using this
 refine given_cloneS (e:=90) (t:=38) (size:=5) ?_ (by kernel_rfl) hi2 q2 hei hn (by decide) cloneS0_26 (fun a n c xs w h1 h2 h3 h4=>cloneS1_26 i0 hi0 z hz0 (hs0.trans hn) (hb0.trans hm) hzs a n c xs w h1 h2 h3 h4) ?_
 ·intro vs w
  obtain ⟨c,hc⟩:=Option.isSome_iff_exists.1 (show Tryz.f26.body.isSome=true from by kernel_rfl)
  have hname : Tryz.f26.name ≠ "runtime.NumGoroutine" := by decide +kernel
  simp [callFunc,Tryz.func26,hname,hc]
 ·intro xs bl r h
  unfold sp26 at h
  split at h
  ·rename_i els
   obtain ⟨h1,h2⟩:=chk_inv h
   cases h2
   exact ⟨els,rfl,of_decide_eq_true h1,rfl,rfl⟩
  ·cases h
set_option maxHeartbeats 2000000 in
theorem clone1 (i0:TypeInfo) (hi:Tryz.prog.info? 5=some i0) (hz0:i0.zero=some (.int .u8 0)) (hz1:i0.size=1) (hz2:i0.bytes=1) (a:Addr) (n c:Nat) (xs:List Int) (w:World) (hx:xs.length=n) (hbig:n≤140737488355328) (hc:∀ i,i<n→w.cell? (a.add i)=some (.int .u8 (xs.getD i 0))) :
  Calls Tryz.prog 64 #[.slice (some a) n c] w fun e w'=>∃ v',e = .returned v'∧w'.ownsRow w.heap.size 5 1 v' n (xs.map (Value.int .u8))∧Below w.heap.size w w':=by
 have q22:∀ (w:World) (a:Option Addr) (n c n' c':Nat),(binOp .eql 22 (.slice a n c) (.slice none n' c')).run Tryz.prog w = .ok (.bool a.isNone) w:=fun w a n c n' c'=>Lib.run_eql_slice_nil w _ _ a n c n' c' Tryz.underlying22
 have u22:∀ w,Sem.run Tryz.prog (underlying 22) w = .ok (TypeDesc.slice 5) w:=run_underlying Tryz.underlying22
 have z5:∀ w,Sem.run Tryz.prog (Go.sizeOf 5) w = .ok 1 w:=fun w=>by simp [Go.sizeOf,typeInfo,hi,hz1]
 have A:Aside (∀ i,i<n→w.cell? (a.add i)=some (.int .u8 (xs.getD i 0))):=hc
 clear hc
 go_enter Tryz.func64,Tryz.ntmps64
 go_wp2_with (at_builtin;refine wpList_append_own _ rfl _ _ 22 rfl w.heap.size 5 i0 (.int .u8 0) 1 1 Tryz.underlying22 hi hz0 hz1 hz2 rfl (by decide) _ _ _ rfl (World.ownsRow_made w #[] 0 (Zz _) (Nat.zero_le _) rfl) a n c (xs.map (Value.int .u8)) rfl ?qc1 ?qc2 ?qc3 ?qc4 ?qc5 ?qc6 ?_)
 case qc1=>simp;omega
 case qc2 =>
  intro j u hj
  have hjn:j<n:=by
   have:=(List.getElem?_eq_some_iff.1 hj).1
   simp at this
   omega
  refine Lib.cell?_alloc_some _ ?_
  rw [A.out j hjn]
  have e:(xs.map (Value.int .u8))[j]? = some (Value.int .u8 (xs.getD j 0)):=by simp [List.getD,List.getElem?_eq_getElem (show j<xs.length by omega)]
  rw [e] at hj
  exact hj
 case qc3=>intro u hu;obtain ⟨x,_,rfl⟩:=List.mem_map.1 hu;rfl
 case qc4=>unfold maxLen;omega
 case qc5=>omega
 case qc6=>simp
 intro v' w1 hown hgrow hnil
 go_wp2
 go_ret
 refine ⟨v',rfl,by simpa using hown,?_⟩
 exact ((Below.refl _ w).alloc (Zz _) _).grown hgrow (by simp) (by intro k hk;simp [Value.ownBlock] at hk;omega)
set_option maxHeartbeats 1000000 in
theorem clone0 (n c:Nat) (w:World):Calls Tryz.prog 64 #[.slice none n c] w fun e w'=>e = .returned (.slice none 0 0)∧w'=w:=by
 have q22:∀ (w:World) (a:Option Addr) (n c n' c':Nat),(binOp .eql 22 (.slice a n c) (.slice none n' c')).run Tryz.prog w = .ok (.bool a.isNone) w:=fun w a n c n' c'=>Lib.run_eql_slice_nil w _ _ a n c n' c' Tryz.underlying22
 go_enter Tryz.func64,Tryz.ntmps64
 go_wp2
 go_ret
 exact ⟨rfl,rfl⟩
theorem g64:Given Tryz.prog G 64 sp64:=by
 obtain ⟨i0,hi0,hz0,hs0,hb0⟩:=info5
 refine given_clone (e:=5) (t:=22) ?_ (by kernel_rfl) clone0 (fun a n c xs w h1 h2 h3=>clone1 i0 hi0 hz0 hs0 hb0 a n c xs w h1 h2 h3) ?_
 ·intro vs w
  obtain ⟨c,hc⟩:=Option.isSome_iff_exists.1 (show Tryz.f64.body.isSome=true from by kernel_rfl)
  have hname : Tryz.f64.name ≠ "runtime.NumGoroutine" := by decide +kernel
  simp [callFunc,Tryz.func64,hname,hc]
 ·intro xs bl r h
  unfold sp64 at h
  split at h
  ·rename_i n
   obtain ⟨h1,h2⟩:=chk_inv h
   cases h2
   exact ⟨n,rfl,of_decide_eq_true h1,rfl,rfl⟩
  ·cases h
theorem all_ok:∀ e∈tabT,Given Tryz.prog G e.1 e.2.2.2∨Walked Tryz.prog G e.1 e.2.1 e.2.2.2:=by
 unfold tabT
 refine List.forall_mem_cons.2 ⟨.inr w9,?_⟩
 refine List.forall_mem_cons.2 ⟨.inr w11,?_⟩
 refine List.forall_mem_cons.2 ⟨.inr w20,?_⟩
 refine List.forall_mem_cons.2 ⟨.inl g25,?_⟩
 refine List.forall_mem_cons.2 ⟨.inl g26,?_⟩
 refine List.forall_mem_cons.2 ⟨.inr w28,?_⟩
 refine List.forall_mem_cons.2 ⟨.inr w33,?_⟩
 refine List.forall_mem_cons.2 ⟨.inr w48,?_⟩
 refine List.forall_mem_cons.2 ⟨.inr w50,?_⟩
 refine List.forall_mem_cons.2 ⟨.inr w51,?_⟩
 refine List.forall_mem_cons.2 ⟨.inr w58,?_⟩
 refine List.forall_mem_cons.2 ⟨.inl g64,?_⟩
 refine List.forall_mem_cons.2 ⟨.inr w67,?_⟩
 refine List.forall_mem_cons.2 ⟨.inr w73,?_⟩
 refine List.forall_mem_cons.2 ⟨.inr w75,?_⟩
 refine List.forall_mem_cons.2 ⟨.inr w78,?_⟩
 refine List.forall_mem_cons.2 ⟨.inr w80,?_⟩
 refine List.forall_mem_cons.2 ⟨.inr w82,?_⟩
 refine List.forall_mem_cons.2 ⟨.inr w88,?_⟩
 refine List.forall_mem_cons.2 ⟨.inr w89,?_⟩
 refine List.forall_mem_cons.2 ⟨.inr w90,?_⟩
 refine List.forall_mem_cons.2 ⟨.inr w91,?_⟩
 refine List.forall_mem_cons.2 ⟨.inr w93,?_⟩
 refine List.forall_mem_cons.2 ⟨.inr w99,?_⟩
 refine List.forall_mem_cons.2 ⟨.inr w102,?_⟩
 refine List.forall_mem_cons.2 ⟨.inr w105,?_⟩
 refine List.forall_mem_cons.2 ⟨.inr w110,?_⟩
 refine List.forall_mem_cons.2 ⟨.inr w117,?_⟩
 refine List.forall_mem_cons.2 ⟨.inr w119,?_⟩
 refine List.forall_mem_cons.2 ⟨.inr w123,?_⟩
 refine List.forall_mem_cons.2 ⟨.inr w125,?_⟩
 refine List.forall_mem_cons.2 ⟨.inr w130,?_⟩
 refine List.forall_mem_cons.2 ⟨.inr w140,?_⟩
 refine List.forall_mem_cons.2 ⟨.inr w141,?_⟩
 refine List.forall_mem_cons.2 ⟨.inr w143,?_⟩
 refine List.forall_mem_cons.2 ⟨.inr w146,?_⟩
 refine List.forall_mem_cons.2 ⟨.inr w147,?_⟩
 refine List.forall_mem_cons.2 ⟨.inr w148,?_⟩
 refine List.forall_mem_cons.2 ⟨.inr w149,?_⟩
 refine List.forall_mem_cons.2 ⟨.inl g150,?_⟩
 refine List.forall_mem_cons.2 ⟨.inr w156,?_⟩
 refine List.forall_mem_cons.2 ⟨.inr w157,?_⟩
 refine List.forall_mem_cons.2 ⟨.inr w159,?_⟩
 refine List.forall_mem_cons.2 ⟨.inr w160,?_⟩
 refine List.forall_mem_cons.2 ⟨.inr w161,?_⟩
 refine List.forall_mem_cons.2 ⟨.inr w169,?_⟩
 refine List.forall_mem_cons.2 ⟨.inr w171,?_⟩
 refine List.forall_mem_cons.2 ⟨.inr w173,?_⟩
 refine List.forall_mem_cons.2 ⟨.inl g176,?_⟩
 refine List.forall_mem_cons.2 ⟨.inr w180,?_⟩
 refine List.forall_mem_cons.2 ⟨.inl g182,?_⟩
 refine List.forall_mem_cons.2 ⟨.inr w183,?_⟩
 refine List.forall_mem_cons.2 ⟨.inr w184,?_⟩
 refine List.forall_mem_cons.2 ⟨.inr w34,?_⟩
 refine List.forall_mem_cons.2 ⟨.inr w39,?_⟩
 refine List.forall_mem_cons.2 ⟨.inr w43,?_⟩
 refine List.forall_mem_cons.2 ⟨.inr w44,?_⟩
 refine List.forall_mem_cons.2 ⟨.inr w59,?_⟩
 refine List.forall_mem_cons.2 ⟨.inr w81,?_⟩
 refine List.forall_mem_cons.2 ⟨.inr w83,?_⟩
 refine List.forall_mem_cons.2 ⟨.inr w84,?_⟩
 refine List.forall_mem_cons.2 ⟨.inr w85,?_⟩
 refine List.forall_mem_cons.2 ⟨.inr w86,?_⟩
 refine List.forall_mem_cons.2 ⟨.inr w97,?_⟩
 refine List.forall_mem_cons.2 ⟨.inr w98,?_⟩
 refine List.forall_mem_cons.2 ⟨.inr w100,?_⟩
 refine List.forall_mem_cons.2 ⟨.inr w101,?_⟩
 refine List.forall_mem_cons.2 ⟨.inr w103,?_⟩
 refine List.forall_mem_cons.2 ⟨.inr w104,?_⟩
 refine List.forall_mem_cons.2 ⟨.inr w106,?_⟩
 refine List.forall_mem_cons.2 ⟨.inr w121,?_⟩
 refine List.forall_mem_cons.2 ⟨.inr w124,?_⟩
 refine List.forall_mem_cons.2 ⟨.inr w132,?_⟩
 refine List.forall_mem_cons.2 ⟨.inr w138,?_⟩
 refine List.forall_mem_cons.2 ⟨.inr w139,?_⟩
 refine List.forall_mem_cons.2 ⟨.inr w151,?_⟩
 refine List.forall_mem_cons.2 ⟨.inr w152,?_⟩
 refine List.forall_mem_cons.2 ⟨.inr w155,?_⟩
 refine List.forall_mem_cons.2 ⟨.inr w170,?_⟩
 refine List.forall_mem_cons.2 ⟨.inr w178,?_⟩
 refine List.forall_mem_cons.2 ⟨.inr w15,?_⟩
 refine List.forall_mem_cons.2 ⟨.inr w19,?_⟩
 refine List.forall_mem_cons.2 ⟨.inr w21,?_⟩
 refine List.forall_mem_cons.2 ⟨.inr w23,?_⟩
 refine List.forall_mem_cons.2 ⟨.inr w35,?_⟩
 refine List.forall_mem_cons.2 ⟨.inr w41,?_⟩
 refine List.forall_mem_cons.2 ⟨.inr w49,?_⟩
 refine List.forall_mem_cons.2 ⟨.inr w52,?_⟩
 refine List.forall_mem_cons.2 ⟨.inr w54,?_⟩
 refine List.forall_mem_cons.2 ⟨.inr w55,?_⟩
 refine List.forall_mem_cons.2 ⟨.inr w56,?_⟩
 refine List.forall_mem_cons.2 ⟨.inr w70,?_⟩
 refine List.forall_mem_cons.2 ⟨.inr w74,?_⟩
 refine List.forall_mem_cons.2 ⟨.inr w76,?_⟩
 refine List.forall_mem_cons.2 ⟨.inr w77,?_⟩
 refine List.forall_mem_cons.2 ⟨.inr w79,?_⟩
 refine List.forall_mem_cons.2 ⟨.inr w87,?_⟩
 refine List.forall_mem_cons.2 ⟨.inr w96,?_⟩
 refine List.forall_mem_cons.2 ⟨.inr w113,?_⟩
 refine List.forall_mem_cons.2 ⟨.inr w118,?_⟩
 refine List.forall_mem_cons.2 ⟨.inr w122,?_⟩
 refine List.forall_mem_cons.2 ⟨.inr w133,?_⟩
 refine List.forall_mem_cons.2 ⟨.inr w142,?_⟩
 refine List.forall_mem_cons.2 ⟨.inr w144,?_⟩
 refine List.forall_mem_cons.2 ⟨.inr w154,?_⟩
 refine List.forall_mem_cons.2 ⟨.inr w162,?_⟩
 refine List.forall_mem_cons.2 ⟨.inr w172,?_⟩
 refine List.forall_mem_cons.2 ⟨.inr w5,?_⟩
 refine List.forall_mem_cons.2 ⟨.inr w6,?_⟩
 refine List.forall_mem_cons.2 ⟨.inr w16,?_⟩
 refine List.forall_mem_cons.2 ⟨.inr w22,?_⟩
 refine List.forall_mem_cons.2 ⟨.inr w24,?_⟩
 refine List.forall_mem_cons.2 ⟨.inr w36,?_⟩
 refine List.forall_mem_cons.2 ⟨.inr w37,?_⟩
 refine List.forall_mem_cons.2 ⟨.inr w38,?_⟩
 refine List.forall_mem_cons.2 ⟨.inr w40,?_⟩
 refine List.forall_mem_cons.2 ⟨.inr w42,?_⟩
 refine List.forall_mem_cons.2 ⟨.inr w47,?_⟩
 refine List.forall_mem_cons.2 ⟨.inr w53,?_⟩
 refine List.forall_mem_cons.2 ⟨.inr w62,?_⟩
 refine List.forall_mem_cons.2 ⟨.inr w69,?_⟩
 refine List.forall_mem_cons.2 ⟨.inr w92,?_⟩
 refine List.forall_mem_cons.2 ⟨.inr w111,?_⟩
 refine List.forall_mem_cons.2 ⟨.inr w112,?_⟩
 refine List.forall_mem_cons.2 ⟨.inr w136,?_⟩
 refine List.forall_mem_cons.2 ⟨.inr w153,?_⟩
 refine List.forall_mem_cons.2 ⟨.inr w163,?_⟩
 refine List.forall_mem_cons.2 ⟨.inr w166,?_⟩
 refine List.forall_mem_cons.2 ⟨.inr w168,?_⟩
 refine List.forall_mem_cons.2 ⟨.inr w174,?_⟩
 refine List.forall_mem_cons.2 ⟨.inr w175,?_⟩
 refine List.forall_mem_cons.2 ⟨.inr w7,?_⟩
 refine List.forall_mem_cons.2 ⟨.inr w12,?_⟩
 refine List.forall_mem_cons.2 ⟨.inr w13,?_⟩
 refine List.forall_mem_cons.2 ⟨.inr w14,?_⟩
 refine List.forall_mem_cons.2 ⟨.inr w45,?_⟩
 refine List.forall_mem_cons.2 ⟨.inr w108,?_⟩
 refine List.forall_mem_cons.2 ⟨.inr w109,?_⟩
 refine List.forall_mem_cons.2 ⟨.inr w131,?_⟩
 refine List.forall_mem_cons.2 ⟨.inr w145,?_⟩
 refine List.forall_mem_cons.2 ⟨.inr w164,?_⟩
 refine List.forall_mem_cons.2 ⟨.inr w17,?_⟩
 refine List.forall_mem_cons.2 ⟨.inr w94,?_⟩
 refine List.forall_mem_cons.2 ⟨.inr w95,?_⟩
 refine List.forall_mem_cons.2 ⟨.inr w127,?_⟩
 refine List.forall_mem_cons.2 ⟨.inr w129,?_⟩
 refine List.forall_mem_cons.2 ⟨.inr w46,?_⟩
 refine List.forall_mem_cons.2 ⟨.inr w68,?_⟩
 refine List.forall_mem_cons.2 ⟨.inr w107,?_⟩
 refine List.forall_mem_cons.2 ⟨.inr w114,?_⟩
 refine List.forall_mem_cons.2 ⟨.inr w18,?_⟩
 refine List.forall_mem_cons.2 ⟨.inr w57,?_⟩
 refine List.forall_mem_cons.2 ⟨.inr w115,?_⟩
 refine List.forall_mem_cons.2 ⟨.inr w116,?_⟩
 refine List.forall_mem_cons.2 ⟨.inr w126,?_⟩
 refine List.forall_mem_cons.2 ⟨.inr w135,?_⟩
 refine List.forall_mem_cons.2 ⟨.inr w137,?_⟩
 refine List.forall_mem_cons.2 ⟨.inr w165,?_⟩
 refine List.forall_mem_cons.2 ⟨.inr w179,?_⟩
 refine List.forall_mem_cons.2 ⟨.inr w181,?_⟩
 refine List.forall_mem_cons.2 ⟨.inr w10,?_⟩
 refine List.forall_mem_cons.2 ⟨.inr w27,?_⟩
 refine List.forall_mem_cons.2 ⟨.inr w60,?_⟩
 refine List.forall_mem_cons.2 ⟨.inr w63,?_⟩
 refine List.forall_mem_cons.2 ⟨.inr w65,?_⟩
 refine List.forall_mem_cons.2 ⟨.inr w72,?_⟩
 refine List.forall_mem_cons.2 ⟨.inr w167,?_⟩
 refine List.forall_mem_cons.2 ⟨.inr w177,?_⟩
 refine List.forall_mem_cons.2 ⟨.inr w30,?_⟩
 refine List.forall_mem_cons.2 ⟨.inr w128,?_⟩
 refine List.forall_mem_cons.2 ⟨.inr w134,?_⟩
 refine List.forall_mem_cons.2 ⟨.inr w158,?_⟩
 refine List.forall_mem_cons.2 ⟨.inr w66,?_⟩
 refine List.forall_mem_cons.2 ⟨.inr w71,?_⟩
 refine List.forall_mem_cons.2 ⟨.inr w120,?_⟩
 refine List.forall_mem_cons.2 ⟨.inr w31,?_⟩
 refine List.forall_mem_cons.2 ⟨.inr w32,?_⟩
 refine List.forall_mem_cons.2 ⟨.inr w61,?_⟩
 refine List.forall_mem_cons.2 ⟨.inr w29,?_⟩
 refine List.forall_mem_cons.2 ⟨.inr w8,?_⟩
 refine List.forall_mem_cons.2 ⟨.inr w4,?_⟩
 refine List.forall_mem_cons.2 ⟨.inr w3,?_⟩
 exact fun e h=>by cases h
theorem inl_ok : ∀ e ∈ inlT, Tryz.prog.funcs[e.1]? = some e.2 ∧ e.2.name ≠ "runtime.NumGoroutine" := by
 unfold inlT
 exact fun e h=>by cases h
theorem look_mem {α:Type} {k:Nat} {x:α}:∀ {l:List (Nat×α)},look k l=some x→(k,x)∈l
 | [],h=>by cases h
 | (j,y)::r,h=>by
  simp only [look] at h
  cases hb:Nat.beq j k with
  | false=>rw [hb] at h;exact List.mem_cons_of_mem _ (look_mem h)
  | true=>rw [hb] at h;cases h;rw [Nat.eq_of_beq_eq_true hb];exact List.mem_cons_self ..
theorem tab:TabOK Tryz.prog G where
 mixed:=by kernel_rfl
 ty:=ty_ok
 each:=fun f k ct s h=>all_ok (f,k,ct,s) (look_mem h)
 inl:=fun f fn h=>inl_ok (f,fn) (look_mem h)
theorem own:ownKnob Tryz.prog.godebug=none:=by kernel_rfl
theorem laidOut:laidOutB Tryz.prog=true:=by kernel_rfl
end Go.Proofs.YtmdppipjjnfanaaGreatDoor
