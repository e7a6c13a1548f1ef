/- The table is right, and the laws. -/
import Derived.Test.YteafbgcimcpfiaaGreatWalk5
import Derived.Test.YteafbgcimcpfiaaGreatRows
set_option linter.all false
open List renaming forall_mem_cons→Zz
open Option renaming isSome_iff_exists→Zy,some→Zw
open Nat renaming le_refl→Zx
namespace Go.Proofs.YteafbgcimcpfiaaGreat
open Go Go.Abs Go.Proofs
open Go.ChangeShapes Go.WideShapes Go.ChangeAt Go.RowKit Go.Lib
set_option maxRecDepth 100000
theorem UP:(List.range 298).map (fun t=>match (UO[t]?).join with | some _=>fc Tryz.prog t | none=>none)=UO:=by kernel_rfl
theorem Co:∀ t i,G.ty t=Zw i->fc Tryz.prog t=Zw i:=by
 intro t i h;have h1:(UO[t]?).join=Zw i:=h;have h2:UO[t]? = Zw (Zw i):=by
  cases hx:UO[t]? with
  | none=>rw[hx] at h1;cases h1
  | some x=>rw[hx] at h1;rw[show x=Zw i from h1]
 have h3:((List.range 298).map (fun t=>match (UO[t]?).join with | some _=>fc Tryz.prog t | none=>none))[t]? = Zw (Zw i):=by rw[UP];exact h2
 rw[List.getElem?_map] at h3;cases hr:(List.range 298)[t]? with
 | none=>rw[hr] at h3;cases h3
 | some y =>
  rw[hr] at h3;have hy:y=t:=by
   have:=(List.getElem?_eq_some_iff.1 hr).2;simpa using this.symm
  subst hy;simp only[Option.map_some,h1,Option.some.injEq] at h3;exact h3
theorem aac:lv Tryz.prog G 254 Qn :=
 GK Tryz.func254 (by decide +kernel) (by kernel_rfl) (by kernel_rfl) (by kernel_rfl) (rt:=3) (by kernel_rfl) (fun xs bl r h=>by
  unfold Qn at h;split at h
  ·cases h;exact⟨_,_,rfl,rfl,rfl⟩
  ·cases h)
theorem VZ(a:Option Addr)(w:World):Calls Tryz.prog 257 #[.slice a 0 0,.int .i64 0] w fun e w'=>e = .returned (.slice a 0 0)/\w'=w:=by
 go_enter Tryz.func257,Tryz.ntmps257
 go_wp2
 go_ret
 exact⟨rfl,rfl⟩
set_option maxHeartbeats 4000000 in
theorem V0(i0:TypeInfo)(z:Value)(IY:Tryz.prog.info? 5=Zw i0)(sO:i0.zero=Zw z)(zB:i0.size=1)(z_:i0.bytes=1)(a:Option Addr)(n:Nat)(w:World)(h0:0<n)(hn:n<=140737488355328):Calls Tryz.prog 257 #[.slice a 0 0,.int .i64 n] w fun e w' =>
   e = .returned (.slice (Zw ⟨w.heap.size,0,none⟩) 0 (grownCap w n 0 5)) /\
   w'=w.drew.alloc (.cells (#[]++Builtin.zeroCells z.cells n++Builtin.zeroCells z.cells (grownCap w n 0 5-n)) 5):=by
 have h1:¬ ((n:Int)<0):=by omega
 have h3:wrap64 ((n:Int))=(n:Int):=by unfold wrap64;omega
 have h4:(n:Int)>0:=by omega
 have hold:(Builtin.firstCells i0.size 0 (.slice a 0 0)).run Tryz.prog w.drew = .ok #[] w.drew:=by
  cases a with
  | none=>exact run_firstCells_none w.drew i0.size 0 0 0
  | some a=>exact run_firstCells_some w.drew i0.size 0 a 0 0 [] (by simp) (fun j v hj=>by simp at hj)
 have vU:Builtin.nextslicecap (0+n) 0*i0.bytes<=281474976710656:=growslice_fits (by omega) (by rw[z_];omega);have W0:∀ ty,(Builtin.append_ #[25,3] ty #[.slice a 0 0,.int .i64 (n:Int)]).run Tryz.prog w =
   .ok (.slice (Zw ⟨w.heap.size,0,none⟩) n (grownCap w n 0 5)) (w.drew.alloc (.cells (#[]++Builtin.zeroCells z.cells n++Builtin.zeroCells z.cells (grownCap w n 0 5-n)) 5)):=fun ty=>by
  have h:=Lib.run_append_grow_zeros w 25 3 ty 5 i0 z .i64 .i64 Tryz.underlying25 Tryz.underlying3 IY sO a 0 0 [] hold n h0 (by omega) (by omega) (by omega) (by rw[z_];omega) vU;simpa using h
 clear hold vU
 go_enter Tryz.func257,Tryz.ntmps257
 cases a with
 | none =>
  go_wp2_with (at_builtin;refine Lib.wpList_append_run _ rfl _ _ _ _ rfl _ _ rfl rfl _ _ (W0 _) ?_)
  all_goals (go_ret;exact⟨rfl,rfl⟩)
 | some a =>
  obtain⟨ab,ao,asp⟩:=a
  go_wp2_with (at_builtin;refine Lib.wpList_append_run _ rfl _ _ _ _ rfl _ _ rfl rfl _ _ (W0 _) ?_)
  all_goals (go_ret;exact⟨rfl,rfl⟩)
theorem SH:∃ i0,Tryz.prog.info? 5=Zw i0/\i0.zero=Zw (.int .u8 0)/\i0.size=1/\i0.bytes=1:=by
 obtain⟨info,z,h1,h2,h3,h4,h5,_⟩:=bz (Co 5 _ (show G.ty 5=Zw ⟨1,1,.u8,[.u8 0],[.u8],[.u8]⟩ from by kernel_rfl));obtain⟨Q',ei,vA,wE,LQ,KS⟩:=je (show CS Tryz.prog 5=true from by kernel_rfl);exact⟨ei,vA,KS,wE,LQ⟩
theorem aad:lv Tryz.prog G 257 Iy:=by
 obtain⟨i0,IY,sO,zB,z_⟩:=SH;refine Jj (e:=5) (t:=25) (cap:=fun w n=>grownCap w n 0 5) (cells:=fun w n => #[]++Builtin.zeroCells (Value.int .u8 0).cells n++Builtin.zeroCells (Value.int .u8 0).cells (grownCap w n 0 5-n)) ?_ (by kernel_rfl) (i:=⟨1,24,.slice 5 true,[.dc],[.eS],[]⟩) (by kernel_rfl) rfl VZ (fun a n w h1 h2=>V0 i0 _ IY sO zB z_ a n w h1 h2) ?_ ?_
 ·intro vs w;obtain ⟨c,hc⟩:=Zy.1 (show Tryz.f257.body.isSome=true from by kernel_rfl);have jB : Tryz.f257.name ≠ "runtime.NumGoroutine" := by decide +kernel
  simp[callFunc,Tryz.func257,jB,hc]
 ·intro w n h1 h2;have AW:=grownCap_ge w n 0 5;refine⟨AW,grownCap_le_maxLen w n 0 5 (by unfold maxLen;omega),?_⟩;simp[Builtin.zeroCells,Value.cells];omega
 ·intro xs bl r h;unfold Iy at h;split at h
  ·rename_i n;obtain⟨h1,h2⟩:=aM h;simp only[Bool.and_eq_true,Qa2] at h1;cases h2;exact⟨n,rfl,h1.1,h1.2,rfl,rfl⟩
  ·cases h
theorem aag:lv Tryz.prog G 283 Qu :=
 xt Tryz.func283 (by decide +kernel) (by kernel_rfl) (by kernel_rfl) (by kernel_rfl) (rt:=3) (by kernel_rfl) (fun xs bl r h=>by
  unfold Qu at h;split at h
  ·cases h;exact⟨_,_,rfl,rfl,rfl⟩
  ·cases h)
theorem Jy : ∀ e ∈ T9, Tryz.prog.funcs[e.1]? = Zw e.2 ∧ e.2.name ≠ "runtime.NumGoroutine" := by
 unfold T9;refine Zz.2 ⟨⟨Tryz.func181,by decide +kernel⟩,?_⟩;refine Zz.2 ⟨⟨Tryz.func232,by decide +kernel⟩,?_⟩;refine Zz.2 ⟨⟨Tryz.func237,by decide +kernel⟩,?_⟩;refine Zz.2 ⟨⟨Tryz.func239,by decide +kernel⟩,?_⟩;refine Zz.2 ⟨⟨Tryz.func86,by decide +kernel⟩,?_⟩;refine Zz.2 ⟨⟨Tryz.func101,by decide +kernel⟩,?_⟩;refine Zz.2 ⟨⟨Tryz.func172,by decide +kernel⟩,?_⟩;refine Zz.2 ⟨⟨Tryz.func176,by decide +kernel⟩,?_⟩;refine Zz.2 ⟨⟨Tryz.func183,by decide +kernel⟩,?_⟩;refine Zz.2 ⟨⟨Tryz.func235,by decide +kernel⟩,?_⟩;refine Zz.2 ⟨⟨Tryz.func87,by decide +kernel⟩,?_⟩;refine Zz.2 ⟨⟨Tryz.func96,by decide +kernel⟩,?_⟩;refine Zz.2 ⟨⟨Tryz.func26,by decide +kernel⟩,?_⟩;refine Zz.2 ⟨⟨Tryz.func134,by decide +kernel⟩,?_⟩;refine Zz.2 ⟨⟨Tryz.func178,by decide +kernel⟩,?_⟩;refine Zz.2 ⟨⟨Tryz.func98,by decide +kernel⟩,?_⟩;refine Zz.2 ⟨⟨Tryz.func231,by decide +kernel⟩,?_⟩;refine Zz.2 ⟨⟨Tryz.func173,by decide +kernel⟩,?_⟩;refine Zz.2 ⟨⟨Tryz.func88,by decide +kernel⟩,?_⟩;exact fun e h=>by cases h
theorem pL{α:Type}{k:Nat}{x:α}:∀ {l:List (Nat×α)},look k l=Zw x->(k,x)∈l
 | [],h=>by cases h
 | (j,y)::r,h=>by
  simp only[look] at h;cases hb:Nat.beq j k with
  | false=>rw[hb] at h;exact List.mem_cons_of_mem _ (pL h)
  | true=>rw[hb] at h;cases h;rw[Nat.eq_of_beq_eq_true hb];exact List.mem_cons_self ..
set_option maxHeartbeats 2000000 in
theorem Gl(i0:TypeInfo)(hi:Tryz.prog.info? 27=Zw i0)(z:Value)(sO:i0.zero=Zw z)(Ra:i0.size=1)(K2:i0.bytes=8)(CP:z.cells.size=1)(a:Addr)(n c:Nat)(xs:List Value)(w:World)(hx:xs.length=n*1)(xw:n<=1000000)(hc:∀ j u,xs[j]? = Zw u->w.cell? (a.add j)=Zw u)(EV:∀ u∈xs,u.oneCell'=true) :
  Calls Tryz.prog 170 #[.slice (Zw a) n c] w fun e w'=>∃ v',e = .returned v'/\w'.ownsRow w.heap.size 27 1 v' n xs/\Below w.heap.size w w':=by
 have XM:∀ (w:World) (a:Option Addr) (n c n' c':Nat),(binOp .eql 39 (.slice a n c) (.slice none n' c')).run Tryz.prog w = .ok (.bool a.isNone) w:=fun w a n c n' c'=>Lib.run_eql_slice_nil w _ _ a n c n' c' Tryz.underlying39;have u22:∀ w,Sem.run Tryz.prog (underlying 39) w = .ok (TypeDesc.slice 27) w:=run_underlying Tryz.underlying39;have z5:∀ w,Sem.run Tryz.prog (Go.sizeOf 27) w = .ok 1 w:=fun w=>by simp[Go.sizeOf,typeInfo,hi,Ra]
 have A:Aside (∀ j u,xs[j]? = Zw u->w.cell? (a.add j)=Zw u):=hc;clear hc
 go_enter Tryz.func170,Tryz.ntmps170
 go_wp2_with (at_builtin;refine wpList_append_own _ rfl _ _ 39 rfl w.heap.size 27 i0 z 1 8 Tryz.underlying39 hi sO Ra K2 CP (by decide) _ _ _ rfl (World.ownsRow_made w #[] 0 (Zx _) (Nat.zero_le _) rfl) a n c xs rfl ?XO ?XP ?XQ ?XR ?XS ?XT ?_)
 case XO=>exact hx
 case XP =>
  intro j u hj;exact Lib.cell?_alloc_some _ (A.out j u hj)
 case XQ=>exact EV
 case XR=>unfold maxLen;omega
 case XS=>omega
 case XT=>simp
 intro v' w1 s8 GP GW
 go_wp2
 go_ret
 refine⟨v',rfl,by simpa using s8,?_⟩;exact((Below.refl _ w).alloc (Zx _) _).grown GP (by simp) (by intro k hk;simp[Value.ownBlock] at hk;omega)
set_option maxHeartbeats 1000000 in
theorem Gj(n c:Nat)(w:World):Calls Tryz.prog 170 #[.slice none n c] w fun e w'=>e = .returned (.slice none 0 0)/\w'=w:=by
 have XM:∀ (w:World) (a:Option Addr) (n c n' c':Nat),(binOp .eql 39 (.slice a n c) (.slice none n' c')).run Tryz.prog w = .ok (.bool a.isNone) w:=fun w a n c n' c'=>Lib.run_eql_slice_nil w _ _ a n c n' c' Tryz.underlying39
 go_enter Tryz.func170,Tryz.ntmps170
 go_wp2
 go_ret
 exact⟨rfl,rfl⟩
theorem Z8:lv Tryz.prog G 170 PT:=by
 obtain⟨ei,jc⟩:=Zy.1 (show(G.ty 27).isSome=true from by kernel_rfl);obtain⟨i2,oA⟩:=Zy.1 (show(G.ty 39).isSome=true from by kernel_rfl);have q:(G.ty 27).map (fun i=>(i.size,i.bytes))=Zw (1,8)/\(G.ty 39).map (·.kind)=Zw (.slice 27 false):=⟨by kernel_rfl,by kernel_rfl⟩;rw[jc,oA] at q;obtain⟨q1,q2⟩:=q;simp only[Option.map_some,Option.some.injEq,Prod.mk.injEq] at q1 q2;obtain⟨hn,hm⟩:=q1;obtain⟨i0,z,IY,zB,z_,sO,WU,SG,_⟩:=bz (Co 27 _ jc);have CP:z.cells.size=1:=by
  have:=(gp (w:=(default:World)) (p:=fun _=>0) WU).len;rw[SG,hn] at this;simpa using this
 refine xr (e:=27) (t:=39) (size:=1) ?_ (by kernel_rfl) oA q2 jc hn (by decide) Gj (fun a n c xs w h1 h2 h3 h4=>Gl i0 IY z sO (zB.trans hn) (z_.trans hm) CP a n c xs w h1 h2 h3 h4) ?_
 ·intro vs w;obtain ⟨c,hc⟩:=Zy.1 (show Tryz.f170.body.isSome=true from by kernel_rfl);have jB : Tryz.f170.name ≠ "runtime.NumGoroutine" := by decide +kernel
  simp[callFunc,Tryz.func170,jB,hc]
 ·intro xs bl r h;unfold PT at h;split at h
  ·rename_i els;obtain⟨h1,h2⟩:=aM h;cases h2;exact⟨els,rfl,by
    simp only[Bool.and_eq_true,Qa2] at h1;first | exact h1 | exact h1.2,rfl,rfl⟩
  ·cases h
set_option maxHeartbeats 2000000 in
theorem Gm(i0:TypeInfo)(hi:Tryz.prog.info? 25=Zw i0)(z:Value)(sO:i0.zero=Zw z)(Ra:i0.size=1)(K2:i0.bytes=24)(CP:z.cells.size=1)(a:Addr)(n c:Nat)(xs:List Value)(w:World)(hx:xs.length=n*1)(xw:n<=1000000)(hc:∀ j u,xs[j]? = Zw u->w.cell? (a.add j)=Zw u)(EV:∀ u∈xs,u.oneCell'=true) :
  Calls Tryz.prog 171 #[.slice (Zw a) n c] w fun e w'=>∃ v',e = .returned v'/\w'.ownsRow w.heap.size 25 1 v' n xs/\Below w.heap.size w w':=by
 have XM:∀ (w:World) (a:Option Addr) (n c n' c':Nat),(binOp .eql 32 (.slice a n c) (.slice none n' c')).run Tryz.prog w = .ok (.bool a.isNone) w:=fun w a n c n' c'=>Lib.run_eql_slice_nil w _ _ a n c n' c' Tryz.underlying32;have u22:∀ w,Sem.run Tryz.prog (underlying 32) w = .ok (TypeDesc.slice 25) w:=run_underlying Tryz.underlying32;have z5:∀ w,Sem.run Tryz.prog (Go.sizeOf 25) w = .ok 1 w:=fun w=>by simp[Go.sizeOf,typeInfo,hi,Ra]
 have A:Aside (∀ j u,xs[j]? = Zw u->w.cell? (a.add j)=Zw u):=hc;clear hc
 go_enter Tryz.func171,Tryz.ntmps171
 go_wp2_with (at_builtin;refine wpList_append_own _ rfl _ _ 32 rfl w.heap.size 25 i0 z 1 24 Tryz.underlying32 hi sO Ra K2 CP (by decide) _ _ _ rfl (World.ownsRow_made w #[] 0 (Zx _) (Nat.zero_le _) rfl) a n c xs rfl ?XO ?XP ?XQ ?XR ?XS ?XT ?_)
 case XO=>exact hx
 case XP =>
  intro j u hj;exact Lib.cell?_alloc_some _ (A.out j u hj)
 case XQ=>exact EV
 case XR=>unfold maxLen;omega
 case XS=>omega
 case XT=>simp
 intro v' w1 s8 GP GW
 go_wp2
 go_ret
 refine⟨v',rfl,by simpa using s8,?_⟩;exact((Below.refl _ w).alloc (Zx _) _).grown GP (by simp) (by intro k hk;simp[Value.ownBlock] at hk;omega)
set_option maxHeartbeats 1000000 in
theorem Gk(n c:Nat)(w:World):Calls Tryz.prog 171 #[.slice none n c] w fun e w'=>e = .returned (.slice none 0 0)/\w'=w:=by
 have XM:∀ (w:World) (a:Option Addr) (n c n' c':Nat),(binOp .eql 32 (.slice a n c) (.slice none n' c')).run Tryz.prog w = .ok (.bool a.isNone) w:=fun w a n c n' c'=>Lib.run_eql_slice_nil w _ _ a n c n' c' Tryz.underlying32
 go_enter Tryz.func171,Tryz.ntmps171
 go_wp2
 go_ret
 exact⟨rfl,rfl⟩
theorem Z9:lv Tryz.prog G 171 PU:=by
 obtain⟨ei,jc⟩:=Zy.1 (show(G.ty 25).isSome=true from by kernel_rfl);obtain⟨i2,oA⟩:=Zy.1 (show(G.ty 32).isSome=true from by kernel_rfl);have q:(G.ty 25).map (fun i=>(i.size,i.bytes))=Zw (1,24)/\(G.ty 32).map (·.kind)=Zw (.slice 25 false):=⟨by kernel_rfl,by kernel_rfl⟩;rw[jc,oA] at q;obtain⟨q1,q2⟩:=q;simp only[Option.map_some,Option.some.injEq,Prod.mk.injEq] at q1 q2;obtain⟨hn,hm⟩:=q1;obtain⟨i0,z,IY,zB,z_,sO,WU,SG,_⟩:=bz (Co 25 _ jc);have CP:z.cells.size=1:=by
  have:=(gp (w:=(default:World)) (p:=fun _=>0) WU).len;rw[SG,hn] at this;simpa using this
 refine xr (e:=25) (t:=32) (size:=1) ?_ (by kernel_rfl) oA q2 jc hn (by decide) Gk (fun a n c xs w h1 h2 h3 h4=>Gm i0 IY z sO (zB.trans hn) (z_.trans hm) CP a n c xs w h1 h2 h3 h4) ?_
 ·intro vs w;obtain ⟨c,hc⟩:=Zy.1 (show Tryz.f171.body.isSome=true from by kernel_rfl);have jB : Tryz.f171.name ≠ "runtime.NumGoroutine" := by decide +kernel
  simp[callFunc,Tryz.func171,jB,hc]
 ·intro xs bl r h;unfold PU at h;split at h
  ·rename_i els;obtain⟨h1,h2⟩:=aM h;cases h2;exact⟨els,rfl,by
    simp only[Bool.and_eq_true,Qa2] at h1;first | exact h1 | exact h1.2,rfl,rfl⟩
  ·cases h
set_option maxHeartbeats 2000000 in
theorem Tc(i0:TypeInfo)(hi:Tryz.prog.info? 5=Zw i0)(sO:i0.zero=Zw (.int .u8 0))(Ra:i0.size=1)(K2:i0.bytes=1)(a:Addr)(n c:Nat)(xs:List Int)(w:World)(hx:xs.length=n)(xw:n<=140737488355328)(hc:∀ i,i<n->w.cell? (a.add i)=Zw (.int .u8 (xs.getD i 0))) :
  Calls Tryz.prog 211 #[.slice (Zw a) n c] w fun e w'=>∃ v',e = .returned v'/\w'.ownsRow w.heap.size 5 1 v' n (xs.map (Value.int .u8))/\Below w.heap.size w w':=by
 have XM:∀ (w:World) (a:Option Addr) (n c n' c':Nat),(binOp .eql 25 (.slice a n c) (.slice none n' c')).run Tryz.prog w = .ok (.bool a.isNone) w:=fun w a n c n' c'=>Lib.run_eql_slice_nil w _ _ a n c n' c' Tryz.underlying25;have u22:∀ w,Sem.run Tryz.prog (underlying 25) w = .ok (TypeDesc.slice 5) w:=run_underlying Tryz.underlying25;have z5:∀ w,Sem.run Tryz.prog (Go.sizeOf 5) w = .ok 1 w:=fun w=>by simp[Go.sizeOf,typeInfo,hi,Ra]
 have A:Aside (∀ i,i<n->w.cell? (a.add i)=Zw (.int .u8 (xs.getD i 0))):=hc;clear hc
 go_enter Tryz.func211,Tryz.ntmps211
 go_wp2_with (at_builtin;refine wpList_append_own _ rfl _ _ 25 rfl w.heap.size 5 i0 (.int .u8 0) 1 1 Tryz.underlying25 hi sO Ra K2 rfl (by decide) _ _ _ rfl (World.ownsRow_made w #[] 0 (Zx _) (Nat.zero_le _) rfl) a n c (xs.map (Value.int .u8)) rfl ?XO ?XP ?XQ ?XR ?XS ?XT ?_)
 case XO=>simp;omega
 case XP =>
  intro j u hj;have hjn:j<n:=by
   have:=(List.getElem?_eq_some_iff.1 hj).1;simp at this;omega
  refine Lib.cell?_alloc_some _ ?_;rw[A.out j hjn];have e:(xs.map (Value.int .u8))[j]? = Zw (Value.int .u8 (xs.getD j 0)):=by simp[List.getD,List.getElem?_eq_getElem (show j<xs.length by omega)]
  rw[e] at hj;exact hj
 case XQ=>intro u hu;obtain⟨x,_,rfl⟩:=List.mem_map.1 hu;rfl
 case XR=>unfold maxLen;omega
 case XS=>omega
 case XT=>simp
 intro v' w1 s8 GP GW
 go_wp2
 go_ret
 refine⟨v',rfl,by simpa using s8,?_⟩;exact((Below.refl _ w).alloc (Zx _) _).grown GP (by simp) (by intro k hk;simp[Value.ownBlock] at hk;omega)
set_option maxHeartbeats 1000000 in
theorem Tb(n c:Nat)(w:World):Calls Tryz.prog 211 #[.slice none n c] w fun e w'=>e = .returned (.slice none 0 0)/\w'=w:=by
 have XM:∀ (w:World) (a:Option Addr) (n c n' c':Nat),(binOp .eql 25 (.slice a n c) (.slice none n' c')).run Tryz.prog w = .ok (.bool a.isNone) w:=fun w a n c n' c'=>Lib.run_eql_slice_nil w _ _ a n c n' c' Tryz.underlying25
 go_enter Tryz.func211,Tryz.ntmps211
 go_wp2
 go_ret
 exact⟨rfl,rfl⟩
theorem Z':lv Tryz.prog G 211 B9:=by
 obtain⟨i0,IY,sO,zB,z_⟩:=SH;refine GI (e:=5) (t:=25) ?_ (by kernel_rfl) Tb (fun a n c xs w h1 h2 h3=>Tc i0 IY sO zB z_ a n c xs w h1 h2 h3) ?_
 ·intro vs w;obtain ⟨c,hc⟩:=Zy.1 (show Tryz.f211.body.isSome=true from by kernel_rfl);have jB : Tryz.f211.name ≠ "runtime.NumGoroutine" := by decide +kernel
  simp[callFunc,Tryz.func211,jB,hc]
 ·intro xs bl r h;unfold B9 at h;split at h
  ·rename_i n;obtain⟨h1,h2⟩:=aM h;cases h2;exact⟨n,rfl,Qa3 h1,rfl,rfl⟩
  ·cases h
theorem Jk(a:Option Addr)(w:World):Calls Tryz.prog 258 #[.slice a 0 0,.int .i64 0] w fun e w'=>e = .returned (.slice a 0 0)/\w'=w:=by
 go_enter Tryz.func258,Tryz.ntmps258
 go_wp2
 go_ret
 exact⟨rfl,rfl⟩
set_option maxHeartbeats 4000000 in
theorem Jl(i0:TypeInfo)(z:Value)(IY:Tryz.prog.info? 27=Zw i0)(sO:i0.zero=Zw z)(zB:i0.size=1)(z_:i0.bytes=8)(CP:z.cells.size=1)(a:Option Addr)(n:Nat)(w:World)(h0:0<n)(hn:n<=1000000000000):Calls Tryz.prog 258 #[.slice a 0 0,.int .i64 n] w fun e w' =>
   e = .returned (.slice (Zw ⟨w.heap.size,0,none⟩) 0 (grownCap w n 0 27)) /\
   w'=w.drew.alloc (.cells (#[]++Builtin.zeroCells z.cells n++Builtin.zeroCells z.cells (grownCap w n 0 27-n)) 27):=by
 have h1:¬ ((n:Int)<0):=by omega
 have h3:wrap64 ((n:Int))=(n:Int):=by unfold wrap64;omega
 have h4:(n:Int)>0:=by omega
 have hold:(Builtin.firstCells i0.size 0 (.slice a 0 0)).run Tryz.prog w.drew = .ok #[] w.drew:=by
  cases a with
  | none=>exact run_firstCells_none w.drew i0.size 0 0 0
  | some a=>exact run_firstCells_some w.drew i0.size 0 a 0 0 [] (by simp) (fun j v hj=>by simp at hj)
 have vU:Builtin.nextslicecap (0+n) 0*i0.bytes<=281474976710656:=growslice_fits (by omega) (by rw[z_];omega);have W0:∀ ty,(Builtin.append_ #[39,3] ty #[.slice a 0 0,.int .i64 (n:Int)]).run Tryz.prog w =
   .ok (.slice (Zw ⟨w.heap.size,0,none⟩) n (grownCap w n 0 27)) (w.drew.alloc (.cells (#[]++Builtin.zeroCells z.cells n++Builtin.zeroCells z.cells (grownCap w n 0 27-n)) 27)):=fun ty=>by
  have h:=Lib.run_append_grow_zeros w 39 3 ty 27 i0 z .i64 .i64 Tryz.underlying39 Tryz.underlying3 IY sO a 0 0 [] hold n h0 (by omega) (by omega) (by omega) (by rw[z_];omega) vU;simpa using h
 clear hold vU
 go_enter Tryz.func258,Tryz.ntmps258
 cases a with
 | none =>
  go_wp2_with (at_builtin;refine Lib.wpList_append_run _ rfl _ _ _ _ rfl _ _ rfl rfl _ _ (W0 _) ?_)
  all_goals (go_ret;exact⟨rfl,rfl⟩)
 | some a =>
  obtain⟨ab,ao,asp⟩:=a
  go_wp2_with (at_builtin;refine Lib.wpList_append_run _ rfl _ _ _ _ rfl _ _ rfl rfl _ _ (W0 _) ?_)
  all_goals (go_ret;exact⟨rfl,rfl⟩)
theorem aae:lv Tryz.prog G 258 Iz:=by
 obtain⟨ei,jc⟩:=Zy.1 (show(G.ty 27).isSome=true from by kernel_rfl);obtain⟨i2,oA⟩:=Zy.1 (show(G.ty 39).isSome=true from by kernel_rfl);have q:(G.ty 27).map (fun i=>(i.size,i.bytes))=Zw (1,8)/\(G.ty 39).map (·.kind)=Zw (.slice 27 false):=⟨by kernel_rfl,by kernel_rfl⟩;rw[jc,oA] at q;obtain⟨q1,q2⟩:=q;simp only[Option.map_some,Option.some.injEq,Prod.mk.injEq] at q1 q2;obtain⟨hn,hm⟩:=q1;obtain⟨i0,z,IY,zB,z_,sO,WU,SG,_⟩:=bz (Co 27 _ jc);have CP:z.cells.size=1:=by
  have:=(gp (w:=(default:World)) (p:=fun _=>0) WU).len;rw[SG,hn] at this;simpa using this
 refine GJ (e:=27) (t:=39) (cap:=fun w n=>grownCap w n 0 27) (cells:=fun w n => #[]++Builtin.zeroCells z.cells n++Builtin.zeroCells z.cells (grownCap w n 0 27-n)) ?_ (by kernel_rfl) oA q2 jc (by rw[hn];decide) Jk (fun a n w h1 h2=>Jl i0 z IY sO (zB.trans hn) (z_.trans hm) CP a n w h1 h2) ?_ ?_
 ·intro vs w;obtain ⟨c,hc⟩:=Zy.1 (show Tryz.f258.body.isSome=true from by kernel_rfl);have jB : Tryz.f258.name ≠ "runtime.NumGoroutine" := by decide +kernel
  simp[callFunc,Tryz.func258,jB,hc]
 ·intro w n h1 h2;have AW:=grownCap_ge w n 0 27;refine⟨AW,grownCap_le_maxLen w n 0 27 (by unfold maxLen;omega),?_⟩;have hz:∀ k,(Builtin.zeroCells z.cells k).size=k*z.cells.size:=fun k=>by simp[Builtin.zeroCells]
  rw[Array.size_append,Array.size_append,hz,hz,CP,hn];simp;omega
 ·intro xs bl r h;unfold Iz at h;split at h
  ·rename_i n;obtain⟨h1,h2⟩:=aM h;simp only[Bool.and_eq_true,Qa2] at h1;cases h2;exact⟨n,rfl,h1.1,h1.2,rfl,rfl⟩
  ·cases h
abbrev Sm(e:Nat×Nat×List CT×Sp):Prop:=lv Tryz.prog G e.1 e.2.2.2\/El Tryz.prog G e.1 e.2.1 e.2.2.2
theorem X6:∀ e∈Nd,Sm e :=
 each (.inr w10) <| each (.inr w17) <| each (.inr w21) <| each (.inr w24) <| each (.inr w46) <| each (.inr w89) <| each (.inr w90) <| each (.inr w92) <| each (.inr w94) <| each (.inr w95) <| each (.inr ab1) <| each (.inr ab7) <| each (.inr ab8) <| each (.inr acr) <| each (.inr acw) <| each (.inr acx) <| each (.inr acA) <| each (.inr acC) <| each (.inr acK) <| each (.inr acO) <| each (.inr acR) <| each (.inl Z8) <| each (.inl Z9) <| each (.inr ac2) <| each (.inr ac3) <| each (.inr ac7) <| each (.inr ado) <| each (.inr ads) <| each (.inr adt) <| each (.inr adu) <| each (.inr adv) <| each (.inr adw) <| each (.inr adz) <| each (.inl Z') <| each (.inr adG) <| each (.inr adJ) <| each (.inr adK) <| each (.inr adO) <| each (.inr adR) <| each (.inr adT) <| each (.inr adU) <| each (.inr adW) <| each (.inr adY) <| each (.inr ad2) <| each (.inr ad8) <| each (.inr ad9) <| each (.inl aac) <| each (.inr ad') <| each (.inl aad) <| each (.inl aae) <| each (.inr aed) <| each (.inr aej) <| each (.inr aeo) <| each (.inr aes) <| each (.inr aev) <| each (.inl aag) <| each (.inr w29) <| each (.inr w60) <| each (.inr w91) <| each (.inr w93) <| each (.inr abZ) <| each (.inr ab2) <| each (.inr ab3) <| each (.inr ab4) <| each (.inr ab5) <| each (.inr ab6) <| each (.inr acj) <| each (.inr acp) <| each (.inr acs) <| each (.inr acu) <| each (.inr acG) <| each (.inr ac4) <| each (.inr adx) <| each (.inr adA) <| each (.inr adF) <| each (.inr adQ) <| each (.inr adX) <| each (.inr adZ) <| each (.inr ad_) <| each (.inr aec) <| each (.inr ael) <| each (.inr aew) <| each (.inr w25) <| each (.inr w36) <| each (.inr w40) <| each (.inr w42) <| each (.inr w58) <| each (.inr w59) <| each (.inr w67) <| each (.inr w71) <| each (.inr w80) <| each (.inr w97) <| each (.inr ab0) <| each (.inr ab_) <| each (.inr ack) <| each (.inr acz) <| each (.inr acB) <| each (.inr acD) <| each (.inr acF) <| each (.inr acI) <| each (.inr acM) <| each (.inr acZ) <| each (.inr ac8) <| each (.inr ac9) <| each (.inr adn) <| each (.inr adp) <| each (.inr adq) <| each (.inr adH) <| each (.inr adI) <| each (.inr adP) <| each (.inr aea) <| each (.inr aef) <| each (.inr aek) <| each (.inr aem) <| each (.inr aen) <| each (.inr aep) <| each (.inr aeq) <| each (.inr aer) <| each (.inr aex) <| each (.inr w13) <| each (.inr w22) <| each (.inr w37) <| each (.inr w39) <| each (.inr w41) <| each (.inr w43) <| each (.inr w63) <| each (.inr ia) <| each (.inr w65) <| each (.inr w66) <| each (.inr w68) <| each (.inr w69) <| each (.inr w70) <| each (.inr w73) <| each (.inr acm) <| each (.inr acn) <| each (.inr aco) <| each (.inr acv) <| each (.inr acy) <| each (.inr acH) <| each (.inr acN) <| each (.inr acS) <| each (.inr acX) <| each (.inr ac0) <| each (.inr ac') <| each (.inr adg) <| each (.inr adh) <| each (.inr adk) <| each (.inr adC) <| each (.inr adD) <| each (.inr adE) <| each (.inr adL) <| each (.inr ad0) <| each (.inr ad5) <| each (.inr aee) <| each (.inr aeg) <| each (.inr aeh) <| each (.inr aeu) <| each (.inr w49) <| each (.inr w53) <| each (.inr w54) <| each (.inr w55) <| each (.inr w56) <| each (.inr w57) <| each (.inr w61) <| each (.inr w62) <| each (.inr w81) <| each (.inr w82) <| each (.inr w83) <| each (.inr w84) <| each (.inr w85) <| each (.inr ab9) <| each (.inr acq) <| each (.inr acP) <| each (.inr acQ) <| each (.inr acW) <| each (.inr ac6) <| each (.inr ade) <| each (.inr adf) <| each (.inr adN) <| each (.inr adS) <| each (.inr ad3) <| each (.inr ad4) <| each (.inr ad7) <| each (.inr aet) <| each (.inr w23) <| each (.inr w44) <| each (.inr w45) <| each (.inr w50) <| each (.inr w51) <| each (.inr w52) <| each (.inr w75) <| each (.inr w79) <| each (.inr ab') <| each (.inr ace) <| each (.inr acf) <| each (.inr adj) <| each (.inr ad1) <| each (.inr aei) <| fun e h=>nomatch h
theorem aby:∀ e∈Sg,e.2.1<7->Sm e :=
 OZ (A:=Nd) (B:=Nf++QT) (by kernel_rfl) X6 (by kernel_rfl)
theorem aaf:lv Tryz.prog G 259 D8 :=
 Dl (sn:=uF) (DY (by kernel_rfl) Co (fun f fn h=>Jy (f,fn) (pL h)) (f:=259) (k:=7) (ct:=[.sl 1,.int .i64,.int .i64,.int .i64]) (s':=D8) rfl (fun g r c s h hr=>aby (g,r,c,s) (pL h) hr) aeb) (fun xs bl r h=>by
  unfold D8 at h;split at h
  ·rename_i a b l els;obtain⟨aC,h2⟩:=aM h;refine⟨(b-a).toNat+1,?_⟩;show aD (_&&_) _=_;rw[ae (by rw[aC,Bool.true_and,Qa2];omega)];exact h2
  ·cases h)
theorem abP:∀ e∈Nf,Sm e :=
 each (.inr w12) <| each (.inr w16) <| each (.inr w38) <| each (.inr w47) <| each (.inr ach) <| each (.inr ada) <| each (.inr ady) <| each (.inl aaf) <| each (.inr w14) <| each (.inr acb) <| each (.inr acE) <| each (.inr acL) <| each (.inr acY) <| each (.inr ac1) <| each (.inr ac_) <| each (.inr adb) <| each (.inr adl) <| each (.inr adB) <| each (.inr adM) <| each (.inr adV) <| each (.inr ad6) <| each (.inr w9) <| each (.inr w74) <| each (.inr aca) <| each (.inr acd) <| each (.inr acJ) <| each (.inr acT) <| each (.inr acU) <| each (.inr acV) <| each (.inr ac5) <| each (.inr adi) <| each (.inr w72) <| each (.inr w76) <| each (.inr w77) <| each (.inr w78) <| each (.inr acg) <| each (.inr aci) <| each (.inr w15) <| each (.inr w48) <| fun e h=>nomatch h
theorem Ul:∀ e∈Nd++Nf,Sm e:=fun e h=>(List.mem_append.1 h).elim (X6 e) (abP e)
theorem abz:∀ e∈Sg,e.2.1<12->Sm e :=
 OZ (A:=Nd++Nf) (B:=QT) (by kernel_rfl) Ul (by kernel_rfl)
theorem Z7:lv Tryz.prog G 102 Lj :=
 Dl (sn:=D7) (DY (by kernel_rfl) Co (fun f fn h=>Jy (f,fn) (pL h)) (f:=102) (k:=12) (ct:=[.ptr,.eS]) (s':=Lj) rfl (fun g r c s h hr=>abz (g,r,c,s) (pL h) hr) abY) (fun xs bl r h=>by
  unfold Lj at h;split at h
  ·rename_i b ks bs;obtain⟨aC,h2⟩:=aM h;refine⟨((b.length:Int)).toNat+1,?_⟩;show aD (_&&_) _=_;rw[ae (by rw[aC,Bool.true_and,Qa2];omega)];exact h2
  ·cases h)
theorem abQ:∀ e∈QT,Sm e :=
 each (.inr w11) <| each (.inl Z7) <| each (.inr w31) <| each (.inr w19) <| each (.inr w27) <| each (.inr w8) <| each (.inr w3) <| fun e h=>nomatch h
theorem abD:∀ e∈Nd++Nf++QT,Sm e:=fun e h=>(List.mem_append.1 h).elim (Ul e) (abQ e)
theorem S6:∀ e∈Sg,Sm e:=abD
theorem wz:Dc Tryz.prog G where
 mixed:=by kernel_rfl
 ty:=Co
 each:=fun f k ct s h=>S6 (f,k,ct,s) (pL h)
 inl:=fun f fn h=>Jy (f,fn) (pL h)
theorem own:ownKnob Tryz.prog.godebug=none:=by kernel_rfl
theorem laidOut:laidOutB Tryz.prog=true:=by kernel_rfl
end Go.Proofs.YteafbgcimcpfiaaGreat
