/- The table is right, and the laws. -/
import Derived.Test.YteafbgcimcpfiaaGreatWalk4
import Derived.Test.YteafbgcimcpfiaaGreatRows
set_option linter.all false
open List renaming forall_mem_cons→Zz
open Option renaming isSome_iff_exists→Zy,some→Zw
open Nat renaming le_refl→Zx
namespace Go.Proofs.YteafbgcimcpfiaaGreat
open Go Go.Abs Go.Proofs
open Go.ChangeShapes Go.WideShapes Go.ChangeAt Go.RowKit Go.Lib
set_option maxRecDepth 100000
theorem VB:(List.range 298).map (fun t=>match (VA[t]?).join with | some _=>ez Tryz.prog t | none=>none)=VA:=by kernel_rfl
theorem BP:∀ t i,G.ty t=Zw i->ez Tryz.prog t=Zw i:=by
 intro t i h;have h1:(VA[t]?).join=Zw i:=h;have h2:VA[t]? = Zw (Zw i):=by
  cases hx:VA[t]? with
  | none=>rw[hx] at h1;cases h1
  | some x=>rw[hx] at h1;rw[show x=Zw i from h1]
 have h3:((List.range 298).map (fun t=>match (VA[t]?).join with | some _=>ez Tryz.prog t | none=>none))[t]? = Zw (Zw i):=by rw[VB];exact h2
 rw[List.getElem?_map] at h3;cases hr:(List.range 298)[t]? with
 | none=>rw[hr] at h3;cases h3
 | some y =>
  rw[hr] at h3;have hy:y=t:=by
   have:=(List.getElem?_eq_some_iff.1 hr).2;simpa using this.symm
  subst hy;simp only[Option.map_some,h1,Option.some.injEq] at h3;exact h3
theorem aa_:jZ Tryz.prog G 254 Qm :=
 Gj Tryz.func254 (by decide +kernel) (by kernel_rfl) (by kernel_rfl) (by kernel_rfl) (rt:=3) (by kernel_rfl) (fun xs bl r h=>by
  unfold Qm at h;split at h
  ·cases h;exact⟨_,_,rfl,rfl,rfl⟩
  ·cases h)
theorem WN(a:Option Addr)(w:World):Calls Tryz.prog 257 #[.slice a 0 0,.int .i64 0] w fun e w'=>e = .returned (.slice a 0 0)/\w'=w:=by
 go_enter Tryz.func257,Tryz.ntmps257
 go_wp2
 go_ret
 exact⟨rfl,rfl⟩
set_option maxHeartbeats 4000000 in
theorem WO(i0:TypeInfo)(z:Value)(Iv:Tryz.prog.info? 5=Zw i0)(ru:i0.zero=Zw z)(B4:i0.size=1)(wx:i0.bytes=1)(a:Option Addr)(n:Nat)(w:World)(h0:0<n)(hn:n<=140737488355328):Calls Tryz.prog 257 #[.slice a 0 0,.int .i64 n] w fun e w' =>
   e = .returned (.slice (Zw ⟨w.heap.size,0,none⟩) 0 (grownCap w n 0 5)) /\
   w'=w.drew.alloc (.cells (#[]++Builtin.zeroCells z.cells n++Builtin.zeroCells z.cells (grownCap w n 0 5-n)) 5):=by
 have h1:¬ ((n:Int)<0):=by omega
 have h3:wrap64 ((n:Int))=(n:Int):=by unfold wrap64;omega
 have h4:(n:Int)>0:=by omega
 have hold:(Builtin.firstCells i0.size 0 (.slice a 0 0)).run Tryz.prog w.drew = .ok #[] w.drew:=by
  cases a with
  | none=>exact run_firstCells_none w.drew i0.size 0 0 0
  | some a=>exact run_firstCells_some w.drew i0.size 0 a 0 0 [] (by simp) (fun j v hj=>by simp at hj)
 have uZ:Builtin.nextslicecap (0+n) 0*i0.bytes<=281474976710656:=growslice_fits (by omega) (by rw[wx];omega);have XM:∀ ty,(Builtin.append_ #[25,3] ty #[.slice a 0 0,.int .i64 (n:Int)]).run Tryz.prog w =
   .ok (.slice (Zw ⟨w.heap.size,0,none⟩) n (grownCap w n 0 5)) (w.drew.alloc (.cells (#[]++Builtin.zeroCells z.cells n++Builtin.zeroCells z.cells (grownCap w n 0 5-n)) 5)):=fun ty=>by
  have h:=Lib.run_append_grow_zeros w 25 3 ty 5 i0 z .i64 .i64 Tryz.underlying25 Tryz.underlying3 Iv ru a 0 0 [] hold n h0 (by omega) (by omega) (by omega) (by rw[wx];omega) uZ;simpa using h
 clear hold uZ
 go_enter Tryz.func257,Tryz.ntmps257
 cases a with
 | none =>
  go_wp2_with (at_builtin;refine Lib.wpList_append_run _ rfl _ _ _ _ rfl _ _ rfl rfl _ _ (XM _) ?_)
  all_goals (go_ret;exact⟨rfl,rfl⟩)
 | some a =>
  obtain⟨ab,ao,asp⟩:=a
  go_wp2_with (at_builtin;refine Lib.wpList_append_run _ rfl _ _ _ _ rfl _ _ rfl rfl _ _ (XM _) ?_)
  all_goals (go_ret;exact⟨rfl,rfl⟩)
theorem SQ:∃ i0,Tryz.prog.info? 5=Zw i0/\i0.zero=Zw (.int .u8 0)/\i0.size=1/\i0.bytes=1:=by
 obtain⟨info,z,h1,h2,h3,h4,h5,_⟩:=bg (BP 5 _ (show G.ty 5=Zw ⟨1,1,.u8,[.u8 0],[.u8],[.u8]⟩ from by kernel_rfl));obtain⟨Q4,ei,uC,vD,LC,Kr⟩:=ii (show Cm Tryz.prog 5=true from by kernel_rfl);exact⟨ei,uC,Kr,vD,LC⟩
theorem aa':jZ Tryz.prog G 257 H6:=by
 obtain⟨i0,Iv,ru,B4,wx⟩:=SQ;refine IW (e:=5) (t:=25) (cap:=fun w n=>grownCap w n 0 5) (cells:=fun w n => #[]++Builtin.zeroCells (Value.int .u8 0).cells n++Builtin.zeroCells (Value.int .u8 0).cells (grownCap w n 0 5-n)) ?_ (by kernel_rfl) (i:=⟨1,24,.slice 5 true,[.cY],[.fT],[]⟩) (by kernel_rfl) rfl WN (fun a n w h1 h2=>WO i0 _ Iv ru B4 wx a n w h1 h2) ?_ ?_
 ·intro vs w;obtain ⟨c,hc⟩:=Zy.1 (show Tryz.f257.body.isSome=true from by kernel_rfl);have iR : Tryz.f257.name ≠ "runtime.NumGoroutine" := by decide +kernel
  simp[callFunc,Tryz.func257,iR,hc]
 ·intro w n h1 h2;have Ap:=grownCap_ge w n 0 5;refine⟨Ap,grownCap_le_maxLen w n 0 5 (by unfold maxLen;omega),?_⟩;simp[Builtin.zeroCells,Value.cells];omega
 ·intro xs bl r h;unfold H6 at h;split at h
  ·rename_i n;obtain⟨h1,h2⟩:=aH h;simp only[Bool.and_eq_true,Qa2] at h1;cases h2;exact⟨n,rfl,h1.1,h1.2,rfl,rfl⟩
  ·cases h
theorem abe:jZ Tryz.prog G 283 Qt :=
 wu Tryz.func283 (by decide +kernel) (by kernel_rfl) (by kernel_rfl) (by kernel_rfl) (rt:=3) (by kernel_rfl) (fun xs bl r h=>by
  unfold Qt at h;split at h
  ·cases h;exact⟨_,_,rfl,rfl,rfl⟩
  ·cases h)
theorem I' : ∀ e ∈ UB, Tryz.prog.funcs[e.1]? = Zw e.2 ∧ e.2.name ≠ "runtime.NumGoroutine" := by
 unfold UB;refine Zz.2 ⟨⟨Tryz.func181,by decide +kernel⟩,?_⟩;refine Zz.2 ⟨⟨Tryz.func232,by decide +kernel⟩,?_⟩;refine Zz.2 ⟨⟨Tryz.func237,by decide +kernel⟩,?_⟩;refine Zz.2 ⟨⟨Tryz.func239,by decide +kernel⟩,?_⟩;refine Zz.2 ⟨⟨Tryz.func86,by decide +kernel⟩,?_⟩;refine Zz.2 ⟨⟨Tryz.func101,by decide +kernel⟩,?_⟩;refine Zz.2 ⟨⟨Tryz.func172,by decide +kernel⟩,?_⟩;refine Zz.2 ⟨⟨Tryz.func176,by decide +kernel⟩,?_⟩;refine Zz.2 ⟨⟨Tryz.func183,by decide +kernel⟩,?_⟩;refine Zz.2 ⟨⟨Tryz.func235,by decide +kernel⟩,?_⟩;refine Zz.2 ⟨⟨Tryz.func87,by decide +kernel⟩,?_⟩;refine Zz.2 ⟨⟨Tryz.func96,by decide +kernel⟩,?_⟩;refine Zz.2 ⟨⟨Tryz.func26,by decide +kernel⟩,?_⟩;refine Zz.2 ⟨⟨Tryz.func178,by decide +kernel⟩,?_⟩;refine Zz.2 ⟨⟨Tryz.func98,by decide +kernel⟩,?_⟩;refine Zz.2 ⟨⟨Tryz.func231,by decide +kernel⟩,?_⟩;refine Zz.2 ⟨⟨Tryz.func173,by decide +kernel⟩,?_⟩;refine Zz.2 ⟨⟨Tryz.func88,by decide +kernel⟩,?_⟩;exact fun e h=>by cases h
theorem ov{α:Type}{k:Nat}{x:α}:∀ {l:List (Nat×α)},look k l=Zw x->(k,x)∈l
 | [],h=>by cases h
 | (j,y)::r,h=>by
  simp only[look] at h;cases hb:Nat.beq j k with
  | false=>rw[hb] at h;exact List.mem_cons_of_mem _ (ov h)
  | true=>rw[hb] at h;cases h;rw[Nat.eq_of_beq_eq_true hb];exact List.mem_cons_self ..
set_option maxHeartbeats 2000000 in
theorem FU(i0:TypeInfo)(hi:Tryz.prog.info? 27=Zw i0)(z:Value)(ru:i0.zero=Zw z)(Q5:i0.size=1)(Kz:i0.bytes=8)(Ck:z.cells.size=1)(a:Addr)(n c:Nat)(xs:List Value)(w:World)(hx:xs.length=n*1)(wy:n<=1000000)(hc:∀ j u,xs[j]? = Zw u->w.cell? (a.add j)=Zw u)(Er:∀ u∈xs,u.oneCell'=true) :
  Calls Tryz.prog 170 #[.slice (Zw a) n c] w fun e w'=>∃ v',e = .returned v'/\w'.ownsRow w.heap.size 27 1 v' n xs/\Below w.heap.size w w':=by
 have YC:∀ (w:World) (a:Option Addr) (n c n' c':Nat),(binOp .eql 39 (.slice a n c) (.slice none n' c')).run Tryz.prog w = .ok (.bool a.isNone) w:=fun w a n c n' c'=>Lib.run_eql_slice_nil w _ _ a n c n' c' Tryz.underlying39;have u22:∀ w,Sem.run Tryz.prog (underlying 39) w = .ok (TypeDesc.slice 27) w:=run_underlying Tryz.underlying39;have z5:∀ w,Sem.run Tryz.prog (Go.sizeOf 27) w = .ok 1 w:=fun w=>by simp[Go.sizeOf,typeInfo,hi,Q5]
 have A:Aside (∀ j u,xs[j]? = Zw u->w.cell? (a.add j)=Zw u):=hc;clear hc
 go_enter Tryz.func170,Tryz.ntmps170
 go_wp2_with (at_builtin;refine wpList_append_own _ rfl _ _ 39 rfl w.heap.size 27 i0 z 1 8 Tryz.underlying39 hi ru Q5 Kz Ck (by decide) _ _ _ rfl (World.ownsRow_made w #[] 0 (Zx _) (Nat.zero_le _) rfl) a n c xs rfl ?YD ?YE ?YF ?YG ?YH ?YI ?_)
 case YD=>exact hx
 case YE =>
  intro j u hj;exact Lib.cell?_alloc_some _ (A.out j u hj)
 case YF=>exact Er
 case YG=>unfold maxLen;omega
 case YH=>omega
 case YI=>simp
 intro v' w1 rL Gp Gv
 go_wp2
 go_ret
 refine⟨v',rfl,by simpa using rL,?_⟩;exact((Below.refl _ w).alloc (Zx _) _).grown Gp (by simp) (by intro k hk;simp[Value.ownBlock] at hk;omega)
set_option maxHeartbeats 1000000 in
theorem FR(n c:Nat)(w:World):Calls Tryz.prog 170 #[.slice none n c] w fun e w'=>e = .returned (.slice none 0 0)/\w'=w:=by
 have YC:∀ (w:World) (a:Option Addr) (n c n' c':Nat),(binOp .eql 39 (.slice a n c) (.slice none n' c')).run Tryz.prog w = .ok (.bool a.isNone) w:=fun w a n c n' c'=>Lib.run_eql_slice_nil w _ _ a n c n' c' Tryz.underlying39
 go_enter Tryz.func170,Tryz.ntmps170
 go_wp2
 go_ret
 exact⟨rfl,rfl⟩
theorem aa6:jZ Tryz.prog G 170 PS:=by
 obtain⟨ei,ie⟩:=Zy.1 (show(G.ty 27).isSome=true from by kernel_rfl);obtain⟨i2,rK⟩:=Zy.1 (show(G.ty 39).isSome=true from by kernel_rfl);have q:(G.ty 27).map (fun i=>(i.size,i.bytes))=Zw (1,8)/\(G.ty 39).map (·.kind)=Zw (.slice 27 false):=⟨by kernel_rfl,by kernel_rfl⟩;rw[ie,rK] at q;obtain⟨q1,q2⟩:=q;simp only[Option.map_some,Option.some.injEq,Prod.mk.injEq] at q1 q2;obtain⟨hn,hm⟩:=q1;obtain⟨i0,z,Iv,B4,wx,ru,XG,SP,_⟩:=bg (BP 27 _ ie);have Ck:z.cells.size=1:=by
  have:=(fF (w:=(default:World)) (p:=fun _=>0) XG).len;rw[SP,hn] at this;simpa using this
 refine wq (e:=27) (t:=39) (size:=1) ?_ (by kernel_rfl) rK q2 ie hn (by decide) FR (fun a n c xs w h1 h2 h3 h4=>FU i0 Iv z ru (B4.trans hn) (wx.trans hm) Ck a n c xs w h1 h2 h3 h4) ?_
 ·intro vs w;obtain ⟨c,hc⟩:=Zy.1 (show Tryz.f170.body.isSome=true from by kernel_rfl);have iR : Tryz.f170.name ≠ "runtime.NumGoroutine" := by decide +kernel
  simp[callFunc,Tryz.func170,iR,hc]
 ·intro xs bl r h;unfold PS at h;split at h
  ·rename_i els;obtain⟨h1,h2⟩:=aH h;cases h2;exact⟨els,rfl,by
    simp only[Bool.and_eq_true,Qa2] at h1;first | exact h1 | exact h1.2,rfl,rfl⟩
  ·cases h
set_option maxHeartbeats 2000000 in
theorem FV(i0:TypeInfo)(hi:Tryz.prog.info? 25=Zw i0)(z:Value)(ru:i0.zero=Zw z)(Q5:i0.size=1)(Kz:i0.bytes=24)(Ck:z.cells.size=1)(a:Addr)(n c:Nat)(xs:List Value)(w:World)(hx:xs.length=n*1)(wy:n<=1000000)(hc:∀ j u,xs[j]? = Zw u->w.cell? (a.add j)=Zw u)(Er:∀ u∈xs,u.oneCell'=true) :
  Calls Tryz.prog 171 #[.slice (Zw a) n c] w fun e w'=>∃ v',e = .returned v'/\w'.ownsRow w.heap.size 25 1 v' n xs/\Below w.heap.size w w':=by
 have YC:∀ (w:World) (a:Option Addr) (n c n' c':Nat),(binOp .eql 32 (.slice a n c) (.slice none n' c')).run Tryz.prog w = .ok (.bool a.isNone) w:=fun w a n c n' c'=>Lib.run_eql_slice_nil w _ _ a n c n' c' Tryz.underlying32;have u22:∀ w,Sem.run Tryz.prog (underlying 32) w = .ok (TypeDesc.slice 25) w:=run_underlying Tryz.underlying32;have z5:∀ w,Sem.run Tryz.prog (Go.sizeOf 25) w = .ok 1 w:=fun w=>by simp[Go.sizeOf,typeInfo,hi,Q5]
 have A:Aside (∀ j u,xs[j]? = Zw u->w.cell? (a.add j)=Zw u):=hc;clear hc
 go_enter Tryz.func171,Tryz.ntmps171
 go_wp2_with (at_builtin;refine wpList_append_own _ rfl _ _ 32 rfl w.heap.size 25 i0 z 1 24 Tryz.underlying32 hi ru Q5 Kz Ck (by decide) _ _ _ rfl (World.ownsRow_made w #[] 0 (Zx _) (Nat.zero_le _) rfl) a n c xs rfl ?YD ?YE ?YF ?YG ?YH ?YI ?_)
 case YD=>exact hx
 case YE =>
  intro j u hj;exact Lib.cell?_alloc_some _ (A.out j u hj)
 case YF=>exact Er
 case YG=>unfold maxLen;omega
 case YH=>omega
 case YI=>simp
 intro v' w1 rL Gp Gv
 go_wp2
 go_ret
 refine⟨v',rfl,by simpa using rL,?_⟩;exact((Below.refl _ w).alloc (Zx _) _).grown Gp (by simp) (by intro k hk;simp[Value.ownBlock] at hk;omega)
set_option maxHeartbeats 1000000 in
theorem FT(n c:Nat)(w:World):Calls Tryz.prog 171 #[.slice none n c] w fun e w'=>e = .returned (.slice none 0 0)/\w'=w:=by
 have YC:∀ (w:World) (a:Option Addr) (n c n' c':Nat),(binOp .eql 32 (.slice a n c) (.slice none n' c')).run Tryz.prog w = .ok (.bool a.isNone) w:=fun w a n c n' c'=>Lib.run_eql_slice_nil w _ _ a n c n' c' Tryz.underlying32
 go_enter Tryz.func171,Tryz.ntmps171
 go_wp2
 go_ret
 exact⟨rfl,rfl⟩
theorem aa7:jZ Tryz.prog G 171 PT:=by
 obtain⟨ei,ie⟩:=Zy.1 (show(G.ty 25).isSome=true from by kernel_rfl);obtain⟨i2,rK⟩:=Zy.1 (show(G.ty 32).isSome=true from by kernel_rfl);have q:(G.ty 25).map (fun i=>(i.size,i.bytes))=Zw (1,24)/\(G.ty 32).map (·.kind)=Zw (.slice 25 false):=⟨by kernel_rfl,by kernel_rfl⟩;rw[ie,rK] at q;obtain⟨q1,q2⟩:=q;simp only[Option.map_some,Option.some.injEq,Prod.mk.injEq] at q1 q2;obtain⟨hn,hm⟩:=q1;obtain⟨i0,z,Iv,B4,wx,ru,XG,SP,_⟩:=bg (BP 25 _ ie);have Ck:z.cells.size=1:=by
  have:=(fF (w:=(default:World)) (p:=fun _=>0) XG).len;rw[SP,hn] at this;simpa using this
 refine wq (e:=25) (t:=32) (size:=1) ?_ (by kernel_rfl) rK q2 ie hn (by decide) FT (fun a n c xs w h1 h2 h3 h4=>FV i0 Iv z ru (B4.trans hn) (wx.trans hm) Ck a n c xs w h1 h2 h3 h4) ?_
 ·intro vs w;obtain ⟨c,hc⟩:=Zy.1 (show Tryz.f171.body.isSome=true from by kernel_rfl);have iR : Tryz.f171.name ≠ "runtime.NumGoroutine" := by decide +kernel
  simp[callFunc,Tryz.func171,iR,hc]
 ·intro xs bl r h;unfold PT at h;split at h
  ·rename_i els;obtain⟨h1,h2⟩:=aH h;cases h2;exact⟨els,rfl,by
    simp only[Bool.and_eq_true,Qa2] at h1;first | exact h1 | exact h1.2,rfl,rfl⟩
  ·cases h
set_option maxHeartbeats 2000000 in
theorem Ty(i0:TypeInfo)(hi:Tryz.prog.info? 5=Zw i0)(ru:i0.zero=Zw (.int .u8 0))(Q5:i0.size=1)(Kz:i0.bytes=1)(a:Addr)(n c:Nat)(xs:List Int)(w:World)(hx:xs.length=n)(wy:n<=140737488355328)(hc:∀ i,i<n->w.cell? (a.add i)=Zw (.int .u8 (xs.getD i 0))) :
  Calls Tryz.prog 211 #[.slice (Zw a) n c] w fun e w'=>∃ v',e = .returned v'/\w'.ownsRow w.heap.size 5 1 v' n (xs.map (Value.int .u8))/\Below w.heap.size w w':=by
 have YC:∀ (w:World) (a:Option Addr) (n c n' c':Nat),(binOp .eql 25 (.slice a n c) (.slice none n' c')).run Tryz.prog w = .ok (.bool a.isNone) w:=fun w a n c n' c'=>Lib.run_eql_slice_nil w _ _ a n c n' c' Tryz.underlying25;have u22:∀ w,Sem.run Tryz.prog (underlying 25) w = .ok (TypeDesc.slice 5) w:=run_underlying Tryz.underlying25;have z5:∀ w,Sem.run Tryz.prog (Go.sizeOf 5) w = .ok 1 w:=fun w=>by simp[Go.sizeOf,typeInfo,hi,Q5]
 have A:Aside (∀ i,i<n->w.cell? (a.add i)=Zw (.int .u8 (xs.getD i 0))):=hc;clear hc
 go_enter Tryz.func211,Tryz.ntmps211
 go_wp2_with (at_builtin;refine wpList_append_own _ rfl _ _ 25 rfl w.heap.size 5 i0 (.int .u8 0) 1 1 Tryz.underlying25 hi ru Q5 Kz rfl (by decide) _ _ _ rfl (World.ownsRow_made w #[] 0 (Zx _) (Nat.zero_le _) rfl) a n c (xs.map (Value.int .u8)) rfl ?YD ?YE ?YF ?YG ?YH ?YI ?_)
 case YD=>simp;omega
 case YE =>
  intro j u hj;have hjn:j<n:=by
   have:=(List.getElem?_eq_some_iff.1 hj).1;simp at this;omega
  refine Lib.cell?_alloc_some _ ?_;rw[A.out j hjn];have e:(xs.map (Value.int .u8))[j]? = Zw (Value.int .u8 (xs.getD j 0)):=by simp[List.getD,List.getElem?_eq_getElem (show j<xs.length by omega)]
  rw[e] at hj;exact hj
 case YF=>intro u hu;obtain⟨x,_,rfl⟩:=List.mem_map.1 hu;rfl
 case YG=>unfold maxLen;omega
 case YH=>omega
 case YI=>simp
 intro v' w1 rL Gp Gv
 go_wp2
 go_ret
 refine⟨v',rfl,by simpa using rL,?_⟩;exact((Below.refl _ w).alloc (Zx _) _).grown Gp (by simp) (by intro k hk;simp[Value.ownBlock] at hk;omega)
set_option maxHeartbeats 1000000 in
theorem Tx(n c:Nat)(w:World):Calls Tryz.prog 211 #[.slice none n c] w fun e w'=>e = .returned (.slice none 0 0)/\w'=w:=by
 have YC:∀ (w:World) (a:Option Addr) (n c n' c':Nat),(binOp .eql 25 (.slice a n c) (.slice none n' c')).run Tryz.prog w = .ok (.bool a.isNone) w:=fun w a n c n' c'=>Lib.run_eql_slice_nil w _ _ a n c n' c' Tryz.underlying25
 go_enter Tryz.func211,Tryz.ntmps211
 go_wp2
 go_ret
 exact⟨rfl,rfl⟩
theorem aa9:jZ Tryz.prog G 211 BA:=by
 obtain⟨i0,Iv,ru,B4,wx⟩:=SQ;refine Gh (e:=5) (t:=25) ?_ (by kernel_rfl) Tx (fun a n c xs w h1 h2 h3=>Ty i0 Iv ru B4 wx a n c xs w h1 h2 h3) ?_
 ·intro vs w;obtain ⟨c,hc⟩:=Zy.1 (show Tryz.f211.body.isSome=true from by kernel_rfl);have iR : Tryz.f211.name ≠ "runtime.NumGoroutine" := by decide +kernel
  simp[callFunc,Tryz.func211,iR,hc]
 ·intro xs bl r h;unfold BA at h;split at h
  ·rename_i n;obtain⟨h1,h2⟩:=aH h;cases h2;exact⟨n,rfl,Qa3 h1,rfl,rfl⟩
  ·cases h
theorem IX(a:Option Addr)(w:World):Calls Tryz.prog 258 #[.slice a 0 0,.int .i64 0] w fun e w'=>e = .returned (.slice a 0 0)/\w'=w:=by
 go_enter Tryz.func258,Tryz.ntmps258
 go_wp2
 go_ret
 exact⟨rfl,rfl⟩
set_option maxHeartbeats 4000000 in
theorem IY(i0:TypeInfo)(z:Value)(Iv:Tryz.prog.info? 27=Zw i0)(ru:i0.zero=Zw z)(B4:i0.size=1)(wx:i0.bytes=8)(Ck:z.cells.size=1)(a:Option Addr)(n:Nat)(w:World)(h0:0<n)(hn:n<=1000000000000):Calls Tryz.prog 258 #[.slice a 0 0,.int .i64 n] w fun e w' =>
   e = .returned (.slice (Zw ⟨w.heap.size,0,none⟩) 0 (grownCap w n 0 27)) /\
   w'=w.drew.alloc (.cells (#[]++Builtin.zeroCells z.cells n++Builtin.zeroCells z.cells (grownCap w n 0 27-n)) 27):=by
 have h1:¬ ((n:Int)<0):=by omega
 have h3:wrap64 ((n:Int))=(n:Int):=by unfold wrap64;omega
 have h4:(n:Int)>0:=by omega
 have hold:(Builtin.firstCells i0.size 0 (.slice a 0 0)).run Tryz.prog w.drew = .ok #[] w.drew:=by
  cases a with
  | none=>exact run_firstCells_none w.drew i0.size 0 0 0
  | some a=>exact run_firstCells_some w.drew i0.size 0 a 0 0 [] (by simp) (fun j v hj=>by simp at hj)
 have uZ:Builtin.nextslicecap (0+n) 0*i0.bytes<=281474976710656:=growslice_fits (by omega) (by rw[wx];omega);have XM:∀ ty,(Builtin.append_ #[39,3] ty #[.slice a 0 0,.int .i64 (n:Int)]).run Tryz.prog w =
   .ok (.slice (Zw ⟨w.heap.size,0,none⟩) n (grownCap w n 0 27)) (w.drew.alloc (.cells (#[]++Builtin.zeroCells z.cells n++Builtin.zeroCells z.cells (grownCap w n 0 27-n)) 27)):=fun ty=>by
  have h:=Lib.run_append_grow_zeros w 39 3 ty 27 i0 z .i64 .i64 Tryz.underlying39 Tryz.underlying3 Iv ru a 0 0 [] hold n h0 (by omega) (by omega) (by omega) (by rw[wx];omega) uZ;simpa using h
 clear hold uZ
 go_enter Tryz.func258,Tryz.ntmps258
 cases a with
 | none =>
  go_wp2_with (at_builtin;refine Lib.wpList_append_run _ rfl _ _ _ _ rfl _ _ rfl rfl _ _ (XM _) ?_)
  all_goals (go_ret;exact⟨rfl,rfl⟩)
 | some a =>
  obtain⟨ab,ao,asp⟩:=a
  go_wp2_with (at_builtin;refine Lib.wpList_append_run _ rfl _ _ _ _ rfl _ _ rfl rfl _ _ (XM _) ?_)
  all_goals (go_ret;exact⟨rfl,rfl⟩)
theorem abb:jZ Tryz.prog G 258 H7:=by
 obtain⟨ei,ie⟩:=Zy.1 (show(G.ty 27).isSome=true from by kernel_rfl);obtain⟨i2,rK⟩:=Zy.1 (show(G.ty 39).isSome=true from by kernel_rfl);have q:(G.ty 27).map (fun i=>(i.size,i.bytes))=Zw (1,8)/\(G.ty 39).map (·.kind)=Zw (.slice 27 false):=⟨by kernel_rfl,by kernel_rfl⟩;rw[ie,rK] at q;obtain⟨q1,q2⟩:=q;simp only[Option.map_some,Option.some.injEq,Prod.mk.injEq] at q1 q2;obtain⟨hn,hm⟩:=q1;obtain⟨i0,z,Iv,B4,wx,ru,XG,SP,_⟩:=bg (BP 27 _ ie);have Ck:z.cells.size=1:=by
  have:=(fF (w:=(default:World)) (p:=fun _=>0) XG).len;rw[SP,hn] at this;simpa using this
 refine Gi (e:=27) (t:=39) (cap:=fun w n=>grownCap w n 0 27) (cells:=fun w n => #[]++Builtin.zeroCells z.cells n++Builtin.zeroCells z.cells (grownCap w n 0 27-n)) ?_ (by kernel_rfl) rK q2 ie (by rw[hn];decide) IX (fun a n w h1 h2=>IY i0 z Iv ru (B4.trans hn) (wx.trans hm) Ck a n w h1 h2) ?_ ?_
 ·intro vs w;obtain ⟨c,hc⟩:=Zy.1 (show Tryz.f258.body.isSome=true from by kernel_rfl);have iR : Tryz.f258.name ≠ "runtime.NumGoroutine" := by decide +kernel
  simp[callFunc,Tryz.func258,iR,hc]
 ·intro w n h1 h2;have Ap:=grownCap_ge w n 0 27;refine⟨Ap,grownCap_le_maxLen w n 0 27 (by unfold maxLen;omega),?_⟩;have hz:∀ k,(Builtin.zeroCells z.cells k).size=k*z.cells.size:=fun k=>by simp[Builtin.zeroCells]
  rw[Array.size_append,Array.size_append,hz,hz,Ck,hn];simp;omega
 ·intro xs bl r h;unfold H7 at h;split at h
  ·rename_i n;obtain⟨h1,h2⟩:=aH h;simp only[Bool.and_eq_true,Qa2] at h1;cases h2;exact⟨n,rfl,h1.1,h1.2,rfl,rfl⟩
  ·cases h
abbrev Sq(e:Nat×Nat×List CT×Sp):Prop:=jZ Tryz.prog G e.1 e.2.2.2\/DR Tryz.prog G e.1 e.2.1 e.2.2.2
theorem Y3:∀ e∈MY,Sq e :=
 each (.inr w21) <| each (.inr w24) <| each (.inr w46) <| each (.inr w89) <| each (.inr w90) <| each (.inr w92) <| each (.inr w94) <| each (.inr w95) <| each (.inr acX) <| each (.inr ac3) <| each (.inr ac4) <| each (.inr adi) <| each (.inr adj) <| each (.inr adn) <| each (.inr adp) <| each (.inr ady) <| each (.inr adC) <| each (.inr adF) <| each (.inl aa6) <| each (.inl aa7) <| each (.inr adQ) <| each (.inr adR) <| each (.inr adV) <| each (.inr ad_) <| each (.inr ad') <| each (.inr aea) <| each (.inr aed) <| each (.inl aa9) <| each (.inr aek) <| each (.inr aen) <| each (.inr aeo) <| each (.inr aes) <| each (.inr aev) <| each (.inr aex) <| each (.inr aey) <| each (.inr aeA) <| each (.inr aeC) <| each (.inr aeG) <| each (.inr aeM) <| each (.inr aeN) <| each (.inl aa_) <| each (.inr aeO) <| each (.inl aa') <| each (.inl abb) <| each (.inr aeS) <| each (.inr aeY) <| each (.inr ae3) <| each (.inr ae7) <| each (.inr ae_) <| each (.inl abe) <| each (.inr w29) <| each (.inr w60) <| each (.inr w91) <| each (.inr w93) <| each (.inr acV) <| each (.inr acY) <| each (.inr acZ) <| each (.inr ac0) <| each (.inr ac1) <| each (.inr ac2) <| each (.inr adg) <| each (.inr adu) <| each (.inr adS) <| each (.inr aeb) <| each (.inr aee) <| each (.inr aej) <| each (.inr aeu) <| each (.inr aeB) <| each (.inr aeD) <| each (.inr aeR) <| each (.inr ae0) <| each (.inr ae') <| each (.inr w25) <| each (.inr w36) <| each (.inr w40) <| each (.inr w42) <| each (.inr w59) <| each (.inr w67) <| each (.inr w71) <| each (.inr w97) <| each (.inr acW) <| each (.inr ac6) <| each (.inr adl) <| each (.inr ado) <| each (.inr adq) <| each (.inr adt) <| each (.inr adw) <| each (.inr adA) <| each (.inr adN) <| each (.inr adW) <| each (.inr adX) <| each (.inr ael) <| each (.inr aem) <| each (.inr aet) <| each (.inr aeP) <| each (.inr aeU) <| each (.inr aeZ) <| each (.inr ae1) <| each (.inr ae2) <| each (.inr ae4) <| each (.inr ae5) <| each (.inr ae6) <| each (.inr afa) <| each (.inr w22) <| each (.inr w37) <| each (.inr w39) <| each (.inr w41) <| each (.inr w43) <| each (.inr w63) <| each (.inr gE) <| each (.inr w65) <| each (.inr w66) <| each (.inr w68) <| each (.inr w69) <| each (.inr w70) <| each (.inr w73) <| each (.inr adh) <| each (.inr adk) <| each (.inr adv) <| each (.inr adB) <| each (.inr adG) <| each (.inr adL) <| each (.inr adO) <| each (.inr adZ) <| each (.inr ad4) <| each (.inr ad5) <| each (.inr ad8) <| each (.inr aeg) <| each (.inr aeh) <| each (.inr aei) <| each (.inr aep) <| each (.inr aeE) <| each (.inr aeJ) <| each (.inr aeT) <| each (.inr aeV) <| each (.inr aeW) <| each (.inr ae9) <| each (.inr w61) <| each (.inr w62) <| each (.inr ac5) <| each (.inr adD) <| each (.inr adE) <| each (.inr adK) <| each (.inr adU) <| each (.inr ad2) <| each (.inr ad3) <| each (.inr aer) <| each (.inr aew) <| each (.inr aeH) <| each (.inr aeI) <| each (.inr aeL) <| each (.inr ae8) <| each (.inr w23) <| each (.inr w44) <| each (.inr w45) <| each (.inr w75) <| each (.inr ac7) <| each (.inr ac') <| each (.inr ada) <| each (.inr ad7) <| each (.inr aeF) <| each (.inr aeX) <| fun e h=>nomatch h
theorem acx:∀ e∈Si,e.2.1<7->Sq e :=
 OU (A:=MY) (B:=MZ++QL) (by kernel_rfl) Y3 (by kernel_rfl)
theorem abd:jZ Tryz.prog G 259 DB :=
 CM (sn:=tt) (Dl (by kernel_rfl) BP (fun f fn h=>I' (f,fn) (ov h)) (f:=259) (k:=7) (ct:=[.sl 1,.int .i64,.int .i64,.int .i64]) (s':=DB) rfl (fun g r c s h hr=>acx (g,r,c,s) (ov h) hr) aeQ) (fun xs bl r h=>by
  unfold DB at h;split at h
  ·rename_i a b l els;obtain⟨aC,h2⟩:=aH h;refine⟨(b-a).toNat+1,?_⟩;show az (_&&_) _=_;rw[ae (by rw[aC,Bool.true_and,Qa2];omega)];exact h2
  ·cases h)
theorem acM:∀ e∈MZ,Sq e :=
 each (.inr w38) <| each (.inr w47) <| each (.inr ade) <| each (.inr ad0) <| each (.inr aec) <| each (.inl abd) <| each (.inr w14) <| each (.inr ac9) <| each (.inr ads) <| each (.inr adz) <| each (.inr adM) <| each (.inr adP) <| each (.inr adY) <| each (.inr ad1) <| each (.inr ad9) <| each (.inr aef) <| each (.inr aeq) <| each (.inr aez) <| each (.inr aeK) <| each (.inr w9) <| each (.inr w74) <| each (.inr ac8) <| each (.inr ac_) <| each (.inr adx) <| each (.inr adH) <| each (.inr adI) <| each (.inr adJ) <| each (.inr adT) <| each (.inr ad6) <| each (.inr w72) <| each (.inr w76) <| each (.inr w77) <| each (.inr w78) <| each (.inr adb) <| each (.inr adf) <| each (.inr w15) <| each (.inr w48) <| fun e h=>nomatch h
theorem Pc:∀ e∈MY++MZ,Sq e:=fun e h=>(List.mem_append.1 h).elim (Y3 e) (acM e)
theorem acy:∀ e∈Si,e.2.1<12->Sq e :=
 OU (A:=MY++MZ) (B:=QL) (by kernel_rfl) Pc (by kernel_rfl)
theorem aa5:jZ Tryz.prog G 102 K2 :=
 CM (sn:=DA) (Dl (by kernel_rfl) BP (fun f fn h=>I' (f,fn) (ov h)) (f:=102) (k:=12) (ct:=[.ptr,.fT]) (s':=K2) rfl (fun g r c s h hr=>acy (g,r,c,s) (ov h) hr) acU) (fun xs bl r h=>by
  unfold K2 at h;split at h
  ·rename_i b ks bs;obtain⟨aC,h2⟩:=aH h;refine⟨((b.length:Int)).toNat+1,?_⟩;show az (_&&_) _=_;rw[ae (by rw[aC,Bool.true_and,Qa2];omega)];exact h2
  ·cases h)
theorem acN:∀ e∈QL,Sq e :=
 each (.inr w11) <| each (.inl aa5) <| each (.inr w31) <| each (.inr w19) <| each (.inr w27) <| each (.inr w8) <| each (.inr w18) <| each (.inr w5) <| fun e h=>nomatch h
theorem acD:∀ e∈MY++MZ++QL,Sq e:=fun e h=>(List.mem_append.1 h).elim (Pc e) (acN e)
theorem Tk:∀ e∈Si,Sq e:=acD
theorem vA:CD Tryz.prog G where
 mixed:=by kernel_rfl
 ty:=BP
 each:=fun f k ct s h=>Tk (f,k,ct,s) (ov h)
 inl:=fun f fn h=>I' (f,fn) (ov h)
theorem own:ownKnob Tryz.prog.godebug=none:=by kernel_rfl
theorem laidOut:laidOutB Tryz.prog=true:=by kernel_rfl
end Go.Proofs.YteafbgcimcpfiaaGreat
