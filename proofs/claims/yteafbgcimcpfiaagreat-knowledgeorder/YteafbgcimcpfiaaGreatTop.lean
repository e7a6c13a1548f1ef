/- The table is right, and the laws. -/
import Derived.Test.YteafbgcimcpfiaaGreatWalk4
import Derived.Test.YteafbgcimcpfiaaGreatRows
set_option linter.all false
open List renaming forall_mem_cons→Zz
open Option renaming isSome_iff_exists→Zy,some→Zw
open Nat renaming le_refl→Zx
namespace Go.Proofs.YteafbgcimcpfiaaGreat
open Go Go.Abs Go.Proofs
open Go.ChangeShapes Go.WideShapes Go.ChangeAt Go.RowKit Go.Lib
set_option maxRecDepth 100000
theorem Sr:(List.range 298).map (fun t=>match (Sq[t]?).join with | some _=>ea Tryz.prog t | none=>none)=Sq:=by kernel_rfl
theorem Aq:∀ t i,G.ty t=Zw i->ea Tryz.prog t=Zw i:=by
 intro t i h;have h1:(Sq[t]?).join=Zw i:=h;have h2:Sq[t]? = Zw (Zw i):=by
  cases hx:Sq[t]? with
  | none=>rw[hx] at h1;cases h1
  | some x=>rw[hx] at h1;rw[show x=Zw i from h1]
 have h3:((List.range 298).map (fun t=>match (Sq[t]?).join with | some _=>ea Tryz.prog t | none=>none))[t]? = Zw (Zw i):=by rw[Sr];exact h2
 rw[List.getElem?_map] at h3;cases hr:(List.range 298)[t]? with
 | none=>rw[hr] at h3;cases h3
 | some y =>
  rw[hr] at h3;have hy:y=t:=by
   have:=(List.getElem?_eq_some_iff.1 hr).2;simpa using this.symm
  subst hy;simp only[Option.map_some,h1,Option.some.injEq] at h3;exact h3
theorem W1:jJ Tryz.prog G 254 N5 :=
 EI Tryz.func254 (by decide +kernel) (by kernel_rfl) (by kernel_rfl) (by kernel_rfl) (rt:=3) (by kernel_rfl) (fun xs bl r h=>by
  unfold N5 at h;split at h
  ·cases h;exact⟨_,_,rfl,rfl,rfl⟩
  ·cases h)
theorem Td(a:Option Addr)(w:World):Calls Tryz.prog 257 #[.slice a 0 0,.int .i64 0] w fun e w'=>e = .returned (.slice a 0 0)/\w'=w:=by
 go_enter Tryz.func257,Tryz.ntmps257
 go_wp2
 go_ret
 exact⟨rfl,rfl⟩
set_option maxHeartbeats 4000000 in
theorem Te(i0:TypeInfo)(z:Value)(GL:Tryz.prog.info? 5=Zw i0)(qw:i0.zero=Zw z)(AC:i0.size=1)(xZ:i0.bytes=1)(a:Option Addr)(n:Nat)(w:World)(h0:0<n)(hn:n<=140737488355328):Calls Tryz.prog 257 #[.slice a 0 0,.int .i64 n] w fun e w' =>
   e = .returned (.slice (Zw ⟨w.heap.size,0,none⟩) 0 (grownCap w n 0 5)) /\
   w'=w.drew.alloc (.cells (#[]++Builtin.zeroCells z.cells n++Builtin.zeroCells z.cells (grownCap w n 0 5-n)) 5):=by
 have h1:¬ ((n:Int)<0):=by omega
 have h3:wrap64 ((n:Int))=(n:Int):=by unfold wrap64;omega
 have h4:(n:Int)>0:=by omega
 have hold:(Builtin.firstCells i0.size 0 (.slice a 0 0)).run Tryz.prog w.drew = .ok #[] w.drew:=by
  cases a with
  | none=>exact run_firstCells_none w.drew i0.size 0 0 0
  | some a=>exact run_firstCells_some w.drew i0.size 0 a 0 0 [] (by simp) (fun j v hj=>by simp at hj)
 have tN:Builtin.nextslicecap (0+n) 0*i0.bytes<=281474976710656:=growslice_fits (by omega) (by rw[xZ];omega);have TY:∀ ty,(Builtin.append_ #[25,3] ty #[.slice a 0 0,.int .i64 (n:Int)]).run Tryz.prog w =
   .ok (.slice (Zw ⟨w.heap.size,0,none⟩) n (grownCap w n 0 5)) (w.drew.alloc (.cells (#[]++Builtin.zeroCells z.cells n++Builtin.zeroCells z.cells (grownCap w n 0 5-n)) 5)):=fun ty=>by
  have h:=Lib.run_append_grow_zeros w 25 3 ty 5 i0 z .i64 .i64 Tryz.underlying25 Tryz.underlying3 GL qw a 0 0 [] hold n h0 (by omega) (by omega) (by omega) (by rw[xZ];omega) tN;simpa using h
 clear hold tN
 go_enter Tryz.func257,Tryz.ntmps257
 cases a with
 | none =>
  go_wp2_with (at_builtin;refine Lib.wpList_append_run _ rfl _ _ _ _ rfl _ _ rfl rfl _ _ (TY _) ?_)
  all_goals (go_ret;exact⟨rfl,rfl⟩)
 | some a =>
  obtain⟨ab,ao,asp⟩:=a
  go_wp2_with (at_builtin;refine Lib.wpList_append_run _ rfl _ _ _ _ rfl _ _ rfl rfl _ _ (TY _) ?_)
  all_goals (go_ret;exact⟨rfl,rfl⟩)
theorem Qn:∃ i0,Tryz.prog.info? 5=Zw i0/\i0.zero=Zw (.int .u8 0)/\i0.size=1/\i0.bytes=1:=by
 obtain⟨info,z,h1,h2,h3,h4,h5,_⟩:=aZ (Aq 5 _ (show G.ty 5=Zw ⟨1,1,.u8,[.u8 0],[.u8],[.u8]⟩ from by kernel_rfl));obtain⟨OT,ei,tj,uv,JE,IC⟩:=gY (show AZ Tryz.prog 5=true from by kernel_rfl);exact⟨ei,tj,IC,uv,JE⟩
theorem W2:jJ Tryz.prog G 257 Gp:=by
 obtain⟨i0,GL,qw,AC,xZ⟩:=Qn;refine G9 (e:=5) (t:=25) (cap:=fun w n=>grownCap w n 0 5) (cells:=fun w n => #[]++Builtin.zeroCells (Value.int .u8 0).cells n++Builtin.zeroCells (Value.int .u8 0).cells (grownCap w n 0 5-n)) ?_ (by kernel_rfl) (i:=⟨1,24,.slice 5 true,[.cK],[.fl],[]⟩) (by kernel_rfl) rfl Td (fun a n w h1 h2=>Te i0 _ GL qw AC xZ a n w h1 h2) ?_ ?_
 ·intro vs w;obtain ⟨c,hc⟩:=Zy.1 (show Tryz.f257.body.isSome=true from by kernel_rfl);have iz : Tryz.f257.name ≠ "runtime.NumGoroutine" := by decide +kernel
  simp[callFunc,Tryz.func257,iz,hc]
 ·intro w n h1 h2;have yQ:=grownCap_ge w n 0 5;refine⟨yQ,grownCap_le_maxLen w n 0 5 (by unfold maxLen;omega),?_⟩;simp[Builtin.zeroCells,Value.cells];omega
 ·intro xs bl r h;unfold Gp at h;split at h
  ·rename_i n;obtain⟨h1,h2⟩:=aH h;simp only[Bool.and_eq_true,Qa2] at h1;cases h2;exact⟨n,rfl,h1.1,h1.2,rfl,rfl⟩
  ·cases h
theorem W5:jJ Tryz.prog G 283 Ob :=
 u_ Tryz.func283 (by decide +kernel) (by kernel_rfl) (by kernel_rfl) (by kernel_rfl) (rt:=3) (by kernel_rfl) (fun xs bl r h=>by
  unfold Ob at h;split at h
  ·cases h;exact⟨_,_,rfl,rfl,rfl⟩
  ·cases h)
theorem Ho : ∀ e ∈ RN, Tryz.prog.funcs[e.1]? = Zw e.2 ∧ e.2.name ≠ "runtime.NumGoroutine" := by
 unfold RN;refine Zz.2 ⟨⟨Tryz.func181,by decide +kernel⟩,?_⟩;refine Zz.2 ⟨⟨Tryz.func232,by decide +kernel⟩,?_⟩;refine Zz.2 ⟨⟨Tryz.func237,by decide +kernel⟩,?_⟩;refine Zz.2 ⟨⟨Tryz.func239,by decide +kernel⟩,?_⟩;refine Zz.2 ⟨⟨Tryz.func86,by decide +kernel⟩,?_⟩;refine Zz.2 ⟨⟨Tryz.func101,by decide +kernel⟩,?_⟩;refine Zz.2 ⟨⟨Tryz.func172,by decide +kernel⟩,?_⟩;refine Zz.2 ⟨⟨Tryz.func176,by decide +kernel⟩,?_⟩;refine Zz.2 ⟨⟨Tryz.func183,by decide +kernel⟩,?_⟩;refine Zz.2 ⟨⟨Tryz.func235,by decide +kernel⟩,?_⟩;refine Zz.2 ⟨⟨Tryz.func87,by decide +kernel⟩,?_⟩;refine Zz.2 ⟨⟨Tryz.func96,by decide +kernel⟩,?_⟩;refine Zz.2 ⟨⟨Tryz.func26,by decide +kernel⟩,?_⟩;refine Zz.2 ⟨⟨Tryz.func178,by decide +kernel⟩,?_⟩;refine Zz.2 ⟨⟨Tryz.func98,by decide +kernel⟩,?_⟩;refine Zz.2 ⟨⟨Tryz.func231,by decide +kernel⟩,?_⟩;refine Zz.2 ⟨⟨Tryz.func173,by decide +kernel⟩,?_⟩;refine Zz.2 ⟨⟨Tryz.func88,by decide +kernel⟩,?_⟩;exact fun e h=>by cases h
theorem nV{α:Type}{k:Nat}{x:α}:∀ {l:List (Nat×α)},look k l=Zw x->(k,x)∈l
 | [],h=>by cases h
 | (j,y)::r,h=>by
  simp only[look] at h;cases hb:Nat.beq j k with
  | false=>rw[hb] at h;exact List.mem_cons_of_mem _ (nV h)
  | true=>rw[hb] at h;cases h;rw[Nat.eq_of_beq_eq_true hb];exact List.mem_cons_self ..
set_option maxHeartbeats 2000000 in
theorem Ej(i0:TypeInfo)(hi:Tryz.prog.info? 27=Zw i0)(z:Value)(qw:i0.zero=Zw z)(OU:i0.size=1)(KY:i0.bytes=8)(AX:z.cells.size=1)(a:Addr)(n c:Nat)(xs:List Value)(w:World)(hx:xs.length=n*1)(vf:n<=1000000)(hc:∀ j u,xs[j]? = Zw u->w.cell? (a.add j)=Zw u)(CZ:∀ u∈xs,u.oneCell'=true) :
  Calls Tryz.prog 170 #[.slice (Zw a) n c] w fun e w'=>∃ v',e = .returned v'/\w'.ownsRow w.heap.size 27 1 v' n xs/\Below w.heap.size w w':=by
 have UA:∀ (w:World) (a:Option Addr) (n c n' c':Nat),(binOp .eql 39 (.slice a n c) (.slice none n' c')).run Tryz.prog w = .ok (.bool a.isNone) w:=fun w a n c n' c'=>Lib.run_eql_slice_nil w _ _ a n c n' c' Tryz.underlying39;have u22:∀ w,Sem.run Tryz.prog (underlying 39) w = .ok (TypeDesc.slice 27) w:=run_underlying Tryz.underlying39;have z5:∀ w,Sem.run Tryz.prog (Go.sizeOf 27) w = .ok 1 w:=fun w=>by simp[Go.sizeOf,typeInfo,hi,OU]
 have A:Aside (∀ j u,xs[j]? = Zw u->w.cell? (a.add j)=Zw u):=hc;clear hc
 go_enter Tryz.func170,Tryz.ntmps170
 go_wp2_with (at_builtin;refine wpList_append_own _ rfl _ _ 39 rfl w.heap.size 27 i0 z 1 8 Tryz.underlying39 hi qw OU KY AX (by decide) _ _ _ rfl (World.ownsRow_made w #[] 0 (Zx _) (Nat.zero_le _) rfl) a n c xs rfl ?UB ?UC ?UD ?UE ?UF ?UG ?_)
 case UB=>exact hx
 case UC =>
  intro j u hj;exact Lib.cell?_alloc_some _ (A.out j u hj)
 case UD=>exact CZ
 case UE=>unfold maxLen;omega
 case UF=>omega
 case UG=>simp
 intro v' w1 qK EM ES
 go_wp2
 go_ret
 refine⟨v',rfl,by simpa using qK,?_⟩;exact((Below.refl _ w).alloc (Zx _) _).grown EM (by simp) (by intro k hk;simp[Value.ownBlock] at hk;omega)
set_option maxHeartbeats 1000000 in
theorem Eh(n c:Nat)(w:World):Calls Tryz.prog 170 #[.slice none n c] w fun e w'=>e = .returned (.slice none 0 0)/\w'=w:=by
 have UA:∀ (w:World) (a:Option Addr) (n c n' c':Nat),(binOp .eql 39 (.slice a n c) (.slice none n' c')).run Tryz.prog w = .ok (.bool a.isNone) w:=fun w a n c n' c'=>Lib.run_eql_slice_nil w _ _ a n c n' c' Tryz.underlying39
 go_enter Tryz.func170,Tryz.ntmps170
 go_wp2
 go_ret
 exact⟨rfl,rfl⟩
theorem WX:jJ Tryz.prog G 170 Nw:=by
 obtain⟨ei,gW⟩:=Zy.1 (show(G.ty 27).isSome=true from by kernel_rfl);obtain⟨i2,mX⟩:=Zy.1 (show(G.ty 39).isSome=true from by kernel_rfl);have q:(G.ty 27).map (fun i=>(i.size,i.bytes))=Zw (1,8)/\(G.ty 39).map (·.kind)=Zw (.slice 27 false):=⟨by kernel_rfl,by kernel_rfl⟩;rw[gW,mX] at q;obtain⟨q1,q2⟩:=q;simp only[Option.map_some,Option.some.injEq,Prod.mk.injEq] at q1 q2;obtain⟨hn,hm⟩:=q1;obtain⟨i0,z,GL,AC,xZ,qw,TS,Qm,_⟩:=aZ (Aq 27 _ gW);have AX:z.cells.size=1:=by
  have:=(fc (w:=(default:World)) (p:=fun _=>0) TS).len;rw[Qm,hn] at this;simpa using this
 refine u9 (e:=27) (t:=39) (size:=1) ?_ (by kernel_rfl) mX q2 gW hn (by decide) Eh (fun a n c xs w h1 h2 h3 h4=>Ej i0 GL z qw (AC.trans hn) (xZ.trans hm) AX a n c xs w h1 h2 h3 h4) ?_
 ·intro vs w;obtain ⟨c,hc⟩:=Zy.1 (show Tryz.f170.body.isSome=true from by kernel_rfl);have iz : Tryz.f170.name ≠ "runtime.NumGoroutine" := by decide +kernel
  simp[callFunc,Tryz.func170,iz,hc]
 ·intro xs bl r h;unfold Nw at h;split at h
  ·rename_i els;obtain⟨h1,h2⟩:=aH h;cases h2;exact⟨els,rfl,by
    simp only[Bool.and_eq_true,Qa2] at h1;first | exact h1 | exact h1.2,rfl,rfl⟩
  ·cases h
set_option maxHeartbeats 2000000 in
theorem Ek(i0:TypeInfo)(hi:Tryz.prog.info? 25=Zw i0)(z:Value)(qw:i0.zero=Zw z)(OU:i0.size=1)(KY:i0.bytes=24)(AX:z.cells.size=1)(a:Addr)(n c:Nat)(xs:List Value)(w:World)(hx:xs.length=n*1)(vf:n<=1000000)(hc:∀ j u,xs[j]? = Zw u->w.cell? (a.add j)=Zw u)(CZ:∀ u∈xs,u.oneCell'=true) :
  Calls Tryz.prog 171 #[.slice (Zw a) n c] w fun e w'=>∃ v',e = .returned v'/\w'.ownsRow w.heap.size 25 1 v' n xs/\Below w.heap.size w w':=by
 have UA:∀ (w:World) (a:Option Addr) (n c n' c':Nat),(binOp .eql 32 (.slice a n c) (.slice none n' c')).run Tryz.prog w = .ok (.bool a.isNone) w:=fun w a n c n' c'=>Lib.run_eql_slice_nil w _ _ a n c n' c' Tryz.underlying32;have u22:∀ w,Sem.run Tryz.prog (underlying 32) w = .ok (TypeDesc.slice 25) w:=run_underlying Tryz.underlying32;have z5:∀ w,Sem.run Tryz.prog (Go.sizeOf 25) w = .ok 1 w:=fun w=>by simp[Go.sizeOf,typeInfo,hi,OU]
 have A:Aside (∀ j u,xs[j]? = Zw u->w.cell? (a.add j)=Zw u):=hc;clear hc
 go_enter Tryz.func171,Tryz.ntmps171
 go_wp2_with (at_builtin;refine wpList_append_own _ rfl _ _ 32 rfl w.heap.size 25 i0 z 1 24 Tryz.underlying32 hi qw OU KY AX (by decide) _ _ _ rfl (World.ownsRow_made w #[] 0 (Zx _) (Nat.zero_le _) rfl) a n c xs rfl ?UB ?UC ?UD ?UE ?UF ?UG ?_)
 case UB=>exact hx
 case UC =>
  intro j u hj;exact Lib.cell?_alloc_some _ (A.out j u hj)
 case UD=>exact CZ
 case UE=>unfold maxLen;omega
 case UF=>omega
 case UG=>simp
 intro v' w1 qK EM ES
 go_wp2
 go_ret
 refine⟨v',rfl,by simpa using qK,?_⟩;exact((Below.refl _ w).alloc (Zx _) _).grown EM (by simp) (by intro k hk;simp[Value.ownBlock] at hk;omega)
set_option maxHeartbeats 1000000 in
theorem Ei(n c:Nat)(w:World):Calls Tryz.prog 171 #[.slice none n c] w fun e w'=>e = .returned (.slice none 0 0)/\w'=w:=by
 have UA:∀ (w:World) (a:Option Addr) (n c n' c':Nat),(binOp .eql 32 (.slice a n c) (.slice none n' c')).run Tryz.prog w = .ok (.bool a.isNone) w:=fun w a n c n' c'=>Lib.run_eql_slice_nil w _ _ a n c n' c' Tryz.underlying32
 go_enter Tryz.func171,Tryz.ntmps171
 go_wp2
 go_ret
 exact⟨rfl,rfl⟩
theorem WY:jJ Tryz.prog G 171 Nx:=by
 obtain⟨ei,gW⟩:=Zy.1 (show(G.ty 25).isSome=true from by kernel_rfl);obtain⟨i2,mX⟩:=Zy.1 (show(G.ty 32).isSome=true from by kernel_rfl);have q:(G.ty 25).map (fun i=>(i.size,i.bytes))=Zw (1,24)/\(G.ty 32).map (·.kind)=Zw (.slice 25 false):=⟨by kernel_rfl,by kernel_rfl⟩;rw[gW,mX] at q;obtain⟨q1,q2⟩:=q;simp only[Option.map_some,Option.some.injEq,Prod.mk.injEq] at q1 q2;obtain⟨hn,hm⟩:=q1;obtain⟨i0,z,GL,AC,xZ,qw,TS,Qm,_⟩:=aZ (Aq 25 _ gW);have AX:z.cells.size=1:=by
  have:=(fc (w:=(default:World)) (p:=fun _=>0) TS).len;rw[Qm,hn] at this;simpa using this
 refine u9 (e:=25) (t:=32) (size:=1) ?_ (by kernel_rfl) mX q2 gW hn (by decide) Ei (fun a n c xs w h1 h2 h3 h4=>Ek i0 GL z qw (AC.trans hn) (xZ.trans hm) AX a n c xs w h1 h2 h3 h4) ?_
 ·intro vs w;obtain ⟨c,hc⟩:=Zy.1 (show Tryz.f171.body.isSome=true from by kernel_rfl);have iz : Tryz.f171.name ≠ "runtime.NumGoroutine" := by decide +kernel
  simp[callFunc,Tryz.func171,iz,hc]
 ·intro xs bl r h;unfold Nx at h;split at h
  ·rename_i els;obtain⟨h1,h2⟩:=aH h;cases h2;exact⟨els,rfl,by
    simp only[Bool.and_eq_true,Qa2] at h1;first | exact h1 | exact h1.2,rfl,rfl⟩
  ·cases h
set_option maxHeartbeats 2000000 in
theorem QX(i0:TypeInfo)(hi:Tryz.prog.info? 5=Zw i0)(qw:i0.zero=Zw (.int .u8 0))(OU:i0.size=1)(KY:i0.bytes=1)(a:Addr)(n c:Nat)(xs:List Int)(w:World)(hx:xs.length=n)(vf:n<=140737488355328)(hc:∀ i,i<n->w.cell? (a.add i)=Zw (.int .u8 (xs.getD i 0))) :
  Calls Tryz.prog 211 #[.slice (Zw a) n c] w fun e w'=>∃ v',e = .returned v'/\w'.ownsRow w.heap.size 5 1 v' n (xs.map (Value.int .u8))/\Below w.heap.size w w':=by
 have UA:∀ (w:World) (a:Option Addr) (n c n' c':Nat),(binOp .eql 25 (.slice a n c) (.slice none n' c')).run Tryz.prog w = .ok (.bool a.isNone) w:=fun w a n c n' c'=>Lib.run_eql_slice_nil w _ _ a n c n' c' Tryz.underlying25;have u22:∀ w,Sem.run Tryz.prog (underlying 25) w = .ok (TypeDesc.slice 5) w:=run_underlying Tryz.underlying25;have z5:∀ w,Sem.run Tryz.prog (Go.sizeOf 5) w = .ok 1 w:=fun w=>by simp[Go.sizeOf,typeInfo,hi,OU]
 have A:Aside (∀ i,i<n->w.cell? (a.add i)=Zw (.int .u8 (xs.getD i 0))):=hc;clear hc
 go_enter Tryz.func211,Tryz.ntmps211
 go_wp2_with (at_builtin;refine wpList_append_own _ rfl _ _ 25 rfl w.heap.size 5 i0 (.int .u8 0) 1 1 Tryz.underlying25 hi qw OU KY rfl (by decide) _ _ _ rfl (World.ownsRow_made w #[] 0 (Zx _) (Nat.zero_le _) rfl) a n c (xs.map (Value.int .u8)) rfl ?UB ?UC ?UD ?UE ?UF ?UG ?_)
 case UB=>simp;omega
 case UC =>
  intro j u hj;have hjn:j<n:=by
   have:=(List.getElem?_eq_some_iff.1 hj).1;simp at this;omega
  refine Lib.cell?_alloc_some _ ?_;rw[A.out j hjn];have e:(xs.map (Value.int .u8))[j]? = Zw (Value.int .u8 (xs.getD j 0)):=by simp[List.getD,List.getElem?_eq_getElem (show j<xs.length by omega)]
  rw[e] at hj;exact hj
 case UD=>intro u hu;obtain⟨x,_,rfl⟩:=List.mem_map.1 hu;rfl
 case UE=>unfold maxLen;omega
 case UF=>omega
 case UG=>simp
 intro v' w1 qK EM ES
 go_wp2
 go_ret
 refine⟨v',rfl,by simpa using qK,?_⟩;exact((Below.refl _ w).alloc (Zx _) _).grown EM (by simp) (by intro k hk;simp[Value.ownBlock] at hk;omega)
set_option maxHeartbeats 1000000 in
theorem QW(n c:Nat)(w:World):Calls Tryz.prog 211 #[.slice none n c] w fun e w'=>e = .returned (.slice none 0 0)/\w'=w:=by
 have UA:∀ (w:World) (a:Option Addr) (n c n' c':Nat),(binOp .eql 25 (.slice a n c) (.slice none n' c')).run Tryz.prog w = .ok (.bool a.isNone) w:=fun w a n c n' c'=>Lib.run_eql_slice_nil w _ _ a n c n' c' Tryz.underlying25
 go_enter Tryz.func211,Tryz.ntmps211
 go_wp2
 go_ret
 exact⟨rfl,rfl⟩
theorem W0:jJ Tryz.prog G 211 Aa:=by
 obtain⟨i0,GL,qw,AC,xZ⟩:=Qn;refine EG (e:=5) (t:=25) ?_ (by kernel_rfl) QW (fun a n c xs w h1 h2 h3=>QX i0 GL qw AC xZ a n c xs w h1 h2 h3) ?_
 ·intro vs w;obtain ⟨c,hc⟩:=Zy.1 (show Tryz.f211.body.isSome=true from by kernel_rfl);have iz : Tryz.f211.name ≠ "runtime.NumGoroutine" := by decide +kernel
  simp[callFunc,Tryz.func211,iz,hc]
 ·intro xs bl r h;unfold Aa at h;split at h
  ·rename_i n;obtain⟨h1,h2⟩:=aH h;cases h2;exact⟨n,rfl,Qa3 h1,rfl,rfl⟩
  ·cases h
theorem G_(a:Option Addr)(w:World):Calls Tryz.prog 258 #[.slice a 0 0,.int .i64 0] w fun e w'=>e = .returned (.slice a 0 0)/\w'=w:=by
 go_enter Tryz.func258,Tryz.ntmps258
 go_wp2
 go_ret
 exact⟨rfl,rfl⟩
set_option maxHeartbeats 4000000 in
theorem Ha(i0:TypeInfo)(z:Value)(GL:Tryz.prog.info? 27=Zw i0)(qw:i0.zero=Zw z)(AC:i0.size=1)(xZ:i0.bytes=8)(AX:z.cells.size=1)(a:Option Addr)(n:Nat)(w:World)(h0:0<n)(hn:n<=1000000000000):Calls Tryz.prog 258 #[.slice a 0 0,.int .i64 n] w fun e w' =>
   e = .returned (.slice (Zw ⟨w.heap.size,0,none⟩) 0 (grownCap w n 0 27)) /\
   w'=w.drew.alloc (.cells (#[]++Builtin.zeroCells z.cells n++Builtin.zeroCells z.cells (grownCap w n 0 27-n)) 27):=by
 have h1:¬ ((n:Int)<0):=by omega
 have h3:wrap64 ((n:Int))=(n:Int):=by unfold wrap64;omega
 have h4:(n:Int)>0:=by omega
 have hold:(Builtin.firstCells i0.size 0 (.slice a 0 0)).run Tryz.prog w.drew = .ok #[] w.drew:=by
  cases a with
  | none=>exact run_firstCells_none w.drew i0.size 0 0 0
  | some a=>exact run_firstCells_some w.drew i0.size 0 a 0 0 [] (by simp) (fun j v hj=>by simp at hj)
 have tN:Builtin.nextslicecap (0+n) 0*i0.bytes<=281474976710656:=growslice_fits (by omega) (by rw[xZ];omega);have TY:∀ ty,(Builtin.append_ #[39,3] ty #[.slice a 0 0,.int .i64 (n:Int)]).run Tryz.prog w =
   .ok (.slice (Zw ⟨w.heap.size,0,none⟩) n (grownCap w n 0 27)) (w.drew.alloc (.cells (#[]++Builtin.zeroCells z.cells n++Builtin.zeroCells z.cells (grownCap w n 0 27-n)) 27)):=fun ty=>by
  have h:=Lib.run_append_grow_zeros w 39 3 ty 27 i0 z .i64 .i64 Tryz.underlying39 Tryz.underlying3 GL qw a 0 0 [] hold n h0 (by omega) (by omega) (by omega) (by rw[xZ];omega) tN;simpa using h
 clear hold tN
 go_enter Tryz.func258,Tryz.ntmps258
 cases a with
 | none =>
  go_wp2_with (at_builtin;refine Lib.wpList_append_run _ rfl _ _ _ _ rfl _ _ rfl rfl _ _ (TY _) ?_)
  all_goals (go_ret;exact⟨rfl,rfl⟩)
 | some a =>
  obtain⟨ab,ao,asp⟩:=a
  go_wp2_with (at_builtin;refine Lib.wpList_append_run _ rfl _ _ _ _ rfl _ _ rfl rfl _ _ (TY _) ?_)
  all_goals (go_ret;exact⟨rfl,rfl⟩)
theorem W3:jJ Tryz.prog G 258 Gq:=by
 obtain⟨ei,gW⟩:=Zy.1 (show(G.ty 27).isSome=true from by kernel_rfl);obtain⟨i2,mX⟩:=Zy.1 (show(G.ty 39).isSome=true from by kernel_rfl);have q:(G.ty 27).map (fun i=>(i.size,i.bytes))=Zw (1,8)/\(G.ty 39).map (·.kind)=Zw (.slice 27 false):=⟨by kernel_rfl,by kernel_rfl⟩;rw[gW,mX] at q;obtain⟨q1,q2⟩:=q;simp only[Option.map_some,Option.some.injEq,Prod.mk.injEq] at q1 q2;obtain⟨hn,hm⟩:=q1;obtain⟨i0,z,GL,AC,xZ,qw,TS,Qm,_⟩:=aZ (Aq 27 _ gW);have AX:z.cells.size=1:=by
  have:=(fc (w:=(default:World)) (p:=fun _=>0) TS).len;rw[Qm,hn] at this;simpa using this
 refine EH (e:=27) (t:=39) (cap:=fun w n=>grownCap w n 0 27) (cells:=fun w n => #[]++Builtin.zeroCells z.cells n++Builtin.zeroCells z.cells (grownCap w n 0 27-n)) ?_ (by kernel_rfl) mX q2 gW (by rw[hn];decide) G_ (fun a n w h1 h2=>Ha i0 z GL qw (AC.trans hn) (xZ.trans hm) AX a n w h1 h2) ?_ ?_
 ·intro vs w;obtain ⟨c,hc⟩:=Zy.1 (show Tryz.f258.body.isSome=true from by kernel_rfl);have iz : Tryz.f258.name ≠ "runtime.NumGoroutine" := by decide +kernel
  simp[callFunc,Tryz.func258,iz,hc]
 ·intro w n h1 h2;have yQ:=grownCap_ge w n 0 27;refine⟨yQ,grownCap_le_maxLen w n 0 27 (by unfold maxLen;omega),?_⟩;have hz:∀ k,(Builtin.zeroCells z.cells k).size=k*z.cells.size:=fun k=>by simp[Builtin.zeroCells]
  rw[Array.size_append,Array.size_append,hz,hz,AX,hn];simp;omega
 ·intro xs bl r h;unfold Gq at h;split at h
  ·rename_i n;obtain⟨h1,h2⟩:=aH h;simp only[Bool.and_eq_true,Qa2] at h1;cases h2;exact⟨n,rfl,h1.1,h1.2,rfl,rfl⟩
  ·cases h
abbrev P6(e:Nat×Nat×List CT×Sp):Prop:=jJ Tryz.prog G e.1 e.2.2.2\/Cn Tryz.prog G e.1 e.2.1 e.2.2.2
theorem UT:∀ e∈KO,P6 e :=
 each (.inr w10) <| each (.inr w17) <| each (.inr w21) <| each (.inr w24) <| each (.inr w46) <| each (.inr w89) <| each (.inr w90) <| each (.inr w92) <| each (.inr w94) <| each (.inr w95) <| each (.inr Zc) <| each (.inr Zs) <| each (.inr Zt) <| each (.inr ZN) <| each (.inr ZO) <| each (.inr ZR) <| each (.inr ZT) <| each (.inr Z1) <| each (.inr Z5) <| each (.inr Z8) <| each (.inl WX) <| each (.inl WY) <| each (.inr aaj) <| each (.inr aak) <| each (.inr aao) <| each (.inr aaD) <| each (.inr aaE) <| each (.inr aaF) <| each (.inr aaI) <| each (.inl W0) <| each (.inr aaP) <| each (.inr aaS) <| each (.inr aaT) <| each (.inr aaX) <| each (.inr aa0) <| each (.inr aa2) <| each (.inr aa3) <| each (.inr aa5) <| each (.inr aa7) <| each (.inr aa') <| each (.inr abh) <| each (.inr abi) <| each (.inl W1) <| each (.inr abj) <| each (.inl W2) <| each (.inl W3) <| each (.inr abn) <| each (.inr abu) <| each (.inr abz) <| each (.inr abD) <| each (.inr abG) <| each (.inl W5) <| each (.inr w20) <| each (.inr w29) <| each (.inr w60) <| each (.inr w91) <| each (.inr w93) <| each (.inr Y') <| each (.inr Ze) <| each (.inr Zi) <| each (.inr Zl) <| each (.inr Zo) <| each (.inr Zr) <| each (.inr ZL) <| each (.inr ZX) <| each (.inr aal) <| each (.inr aaG) <| each (.inr aaJ) <| each (.inr aaO) <| each (.inr aaZ) <| each (.inr aa6) <| each (.inr aa8) <| each (.inr abm) <| each (.inr abw) <| each (.inr abH) <| each (.inr w25) <| each (.inr w36) <| each (.inr w40) <| each (.inr w42) <| each (.inr w59) <| each (.inr w67) <| each (.inr w71) <| each (.inr w97) <| each (.inr Za) <| each (.inr ZB) <| each (.inr ZQ) <| each (.inr ZS) <| each (.inr ZU) <| each (.inr ZW) <| each (.inr ZZ) <| each (.inr Z3) <| each (.inr aag) <| each (.inr aap) <| each (.inr aaq) <| each (.inr aaQ) <| each (.inr aaR) <| each (.inr aaY) <| each (.inr abk) <| each (.inr abp) <| each (.inr abv) <| each (.inr abx) <| each (.inr aby) <| each (.inr abA) <| each (.inr abB) <| each (.inr abC) <| each (.inr abI) <| each (.inr w22) <| each (.inr w37) <| each (.inr w39) <| each (.inr w41) <| each (.inr w43) <| each (.inr w63) <| each (.inr ga) <| each (.inr w65) <| each (.inr w66) <| each (.inr w68) <| each (.inr w69) <| each (.inr w70) <| each (.inr w73) <| each (.inr ZM) <| each (.inr ZP) <| each (.inr ZY) <| each (.inr Z4) <| each (.inr Z9) <| each (.inr aae) <| each (.inr aah) <| each (.inr aas) <| each (.inr aax) <| each (.inr aay) <| each (.inr aaB) <| each (.inr aaL) <| each (.inr aaM) <| each (.inr aaN) <| each (.inr aaU) <| each (.inr aa9) <| each (.inr abe) <| each (.inr abo) <| each (.inr abq) <| each (.inr abr) <| each (.inr abF) <| each (.inr w61) <| each (.inr w62) <| each (.inr ZA) <| each (.inr Z6) <| each (.inr Z7) <| each (.inr aad) <| each (.inr aan) <| each (.inr aav) <| each (.inr aaw) <| each (.inr aaW) <| each (.inr aa1) <| each (.inr abb) <| each (.inr abd) <| each (.inr abg) <| each (.inr abE) <| each (.inr w23) <| each (.inr w44) <| each (.inr w45) <| each (.inr w75) <| each (.inr ZC) <| each (.inr ZG) <| each (.inr ZH) <| each (.inr aaA) <| each (.inr aa_) <| each (.inr abt) <| fun e h=>nomatch h
theorem YQ:∀ e∈PZ,e.2.1<7->P6 e :=
 MF (A:=KO) (B:=KP++Oy) (by kernel_rfl) UT (by kernel_rfl)
theorem W4:jJ Tryz.prog G 259 B9 :=
 Bo (sn:=sg) (BW (by kernel_rfl) Aq (fun f fn h=>Ho (f,fn) (nV h)) (f:=259) (k:=7) (ct:=[.sl 1,.int .i64,.int .i64,.int .i64]) (s':=B9) rfl (fun g r c s h hr=>YQ (g,r,c,s) (nV h) hr) abl) (fun xs bl r h=>by
  unfold B9 at h;split at h
  ·rename_i a b l els;obtain⟨aB,h2⟩:=aH h;refine⟨(b-a).toNat+1,?_⟩;show az (_&&_) _=_;rw[ae (by rw[aB,Bool.true_and,Qa2];omega)];exact h2
  ·cases h)
theorem Y3:∀ e∈KP,P6 e :=
 each (.inr w38) <| each (.inr w47) <| each (.inr ZJ) <| each (.inr aat) <| each (.inr aaH) <| each (.inl W4) <| each (.inr w14) <| each (.inr ZE) <| each (.inr ZV) <| each (.inr Z2) <| each (.inr aaf) <| each (.inr aai) <| each (.inr aar) <| each (.inr aau) <| each (.inr aaC) <| each (.inr aaK) <| each (.inr aaV) <| each (.inr aa4) <| each (.inr abf) <| each (.inr w9) <| each (.inr w74) <| each (.inr ZD) <| each (.inr ZF) <| each (.inr Z0) <| each (.inr Z_) <| each (.inr Z') <| each (.inr aac) <| each (.inr aam) <| each (.inr aaz) <| each (.inr w72) <| each (.inr w76) <| each (.inr w77) <| each (.inr w78) <| each (.inr ZI) <| each (.inr ZK) <| each (.inr w15) <| each (.inr w48) <| fun e h=>nomatch h
theorem PM:∀ e∈KO++KP,P6 e:=fun e h=>(List.mem_append.1 h).elim (UT e) (Y3 e)
theorem YR:∀ e∈PZ,e.2.1<12->P6 e :=
 MF (A:=KO++KP) (B:=Oy) (by kernel_rfl) PM (by kernel_rfl)
theorem WW:jJ Tryz.prog G 102 I9 :=
 Bo (sn:=B8) (BW (by kernel_rfl) Aq (fun f fn h=>Ho (f,fn) (nV h)) (f:=102) (k:=12) (ct:=[.ptr,.fl]) (s':=I9) rfl (fun g r c s h hr=>YR (g,r,c,s) (nV h) hr) Y_) (fun xs bl r h=>by
  unfold I9 at h;split at h
  ·rename_i b ks bs;obtain⟨aB,h2⟩:=aH h;refine⟨((b.length:Int)).toNat+1,?_⟩;show az (_&&_) _=_;rw[ae (by rw[aB,Bool.true_and,Qa2];omega)];exact h2
  ·cases h)
theorem Y4:∀ e∈Oy,P6 e :=
 each (.inr w11) <| each (.inl WW) <| each (.inr w31) <| each (.inr w19) <| each (.inr w27) <| each (.inr w8) <| each (.inr w18) <| each (.inr w4) <| fun e h=>nomatch h
theorem YV:∀ e∈KO++KP++Oy,P6 e:=fun e h=>(List.mem_append.1 h).elim (PM e) (Y4 e)
theorem QN:∀ e∈PZ,P6 e:=YV
theorem uq:Bg Tryz.prog G where
 mixed:=by kernel_rfl
 ty:=Aq
 each:=fun f k ct s h=>QN (f,k,ct,s) (nV h)
 inl:=fun f fn h=>Ho (f,fn) (nV h)
theorem own:ownKnob Tryz.prog.godebug=none:=by kernel_rfl
theorem laidOut:laidOutB Tryz.prog=true:=by kernel_rfl
end Go.Proofs.YteafbgcimcpfiaaGreat
