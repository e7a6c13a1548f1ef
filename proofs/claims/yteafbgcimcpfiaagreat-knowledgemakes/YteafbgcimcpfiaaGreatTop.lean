/- The table is right, and the laws. -/
import Derived.Test.YteafbgcimcpfiaaGreatWalk4
import Derived.Test.YteafbgcimcpfiaaGreatRows
set_option linter.all false
open List renaming forall_mem_cons→Zz
open Option renaming isSome_iff_exists→Zy,some→Zw
open Nat renaming le_refl→Zx
namespace Go.Proofs.YteafbgcimcpfiaaGreat
open Go Go.Abs Go.Proofs
open Go.ChangeShapes Go.WideShapes Go.ChangeAt Go.RowKit Go.Lib
set_option maxRecDepth 100000
theorem SC:(List.range 298).map (fun t=>match (SB[t]?).join with | some _=>d_ Tryz.prog t | none=>none)=SB:=by kernel_rfl
theorem Au:∀ t i,G.ty t=Zw i->d_ Tryz.prog t=Zw i:=by
 intro t i h;have h1:(SB[t]?).join=Zw i:=h;have h2:SB[t]? = Zw (Zw i):=by
  cases hx:SB[t]? with
  | none=>rw[hx] at h1;cases h1
  | some x=>rw[hx] at h1;rw[show x=Zw i from h1]
 have h3:((List.range 298).map (fun t=>match (SB[t]?).join with | some _=>d_ Tryz.prog t | none=>none))[t]? = Zw (Zw i):=by rw[SC];exact h2
 rw[List.getElem?_map] at h3;cases hr:(List.range 298)[t]? with
 | none=>rw[hr] at h3;cases h3
 | some y =>
  rw[hr] at h3;have hy:y=t:=by
   have:=(List.getElem?_eq_some_iff.1 hr).2;simpa using this.symm
  subst hy;simp only[Option.map_some,h1,Option.some.injEq] at h3;exact h3
theorem XF:jG Tryz.prog G 254 NY :=
 EM Tryz.func254 (by decide +kernel) (by kernel_rfl) (by kernel_rfl) (by kernel_rfl) (rt:=3) (by kernel_rfl) (fun xs bl r h=>by
  unfold NY at h;split at h
  ·cases h;exact⟨_,_,rfl,rfl,rfl⟩
  ·cases h)
theorem Tq(a:Option Addr)(w:World):Calls Tryz.prog 257 #[.slice a 0 0,.int .i64 0] w fun e w'=>e = .returned (.slice a 0 0)/\w'=w:=by
 go_enter Tryz.func257,Tryz.ntmps257
 go_wp2
 go_ret
 exact⟨rfl,rfl⟩
set_option maxHeartbeats 4000000 in
theorem Tr(i0:TypeInfo)(z:Value)(GN:Tryz.prog.info? 5=Zw i0)(qy:i0.zero=Zw z)(AF:i0.size=1)(x4:i0.bytes=1)(a:Option Addr)(n:Nat)(w:World)(h0:0<n)(hn:n<=140737488355328):Calls Tryz.prog 257 #[.slice a 0 0,.int .i64 n] w fun e w' =>
   e = .returned (.slice (Zw ⟨w.heap.size,0,none⟩) 0 (grownCap w n 0 5)) /\
   w'=w.drew.alloc (.cells (#[]++Builtin.zeroCells z.cells n++Builtin.zeroCells z.cells (grownCap w n 0 5-n)) 5):=by
 have h1:¬ ((n:Int)<0):=by omega
 have h3:wrap64 ((n:Int))=(n:Int):=by unfold wrap64;omega
 have h4:(n:Int)>0:=by omega
 have hold:(Builtin.firstCells i0.size 0 (.slice a 0 0)).run Tryz.prog w.drew = .ok #[] w.drew:=by
  cases a with
  | none=>exact run_firstCells_none w.drew i0.size 0 0 0
  | some a=>exact run_firstCells_some w.drew i0.size 0 a 0 0 [] (by simp) (fun j v hj=>by simp at hj)
 have tW:Builtin.nextslicecap (0+n) 0*i0.bytes<=281474976710656:=growslice_fits (by omega) (by rw[x4];omega);have Ub:∀ ty,(Builtin.append_ #[25,3] ty #[.slice a 0 0,.int .i64 (n:Int)]).run Tryz.prog w =
   .ok (.slice (Zw ⟨w.heap.size,0,none⟩) n (grownCap w n 0 5)) (w.drew.alloc (.cells (#[]++Builtin.zeroCells z.cells n++Builtin.zeroCells z.cells (grownCap w n 0 5-n)) 5)):=fun ty=>by
  have h:=Lib.run_append_grow_zeros w 25 3 ty 5 i0 z .i64 .i64 Tryz.underlying25 Tryz.underlying3 GN qy a 0 0 [] hold n h0 (by omega) (by omega) (by omega) (by rw[x4];omega) tW;simpa using h
 clear hold tW
 go_enter Tryz.func257,Tryz.ntmps257
 cases a with
 | none =>
  go_wp2_with (at_builtin;refine Lib.wpList_append_run _ rfl _ _ _ _ rfl _ _ rfl rfl _ _ (Ub _) ?_)
  all_goals (go_ret;exact⟨rfl,rfl⟩)
 | some a =>
  obtain⟨ab,ao,asp⟩:=a
  go_wp2_with (at_builtin;refine Lib.wpList_append_run _ rfl _ _ _ _ rfl _ _ rfl rfl _ _ (Ub _) ?_)
  all_goals (go_ret;exact⟨rfl,rfl⟩)
theorem Qi:∃ i0,Tryz.prog.info? 5=Zw i0/\i0.zero=Zw (.int .u8 0)/\i0.size=1/\i0.bytes=1:=by
 obtain⟨info,z,h1,h2,h3,h4,h5,_⟩:=a_ (Au 5 _ (show G.ty 5=Zw ⟨1,1,.u8,[.u8 0],[.u8],[.u8]⟩ from by kernel_rfl));obtain⟨OO,ei,tB,uF,JC,Iz⟩:=g_ (show A2 Tryz.prog 5=true from by kernel_rfl);exact⟨ei,tB,Iz,uF,JC⟩
theorem XG:jG Tryz.prog G 257 Gr:=by
 obtain⟨i0,GN,qy,AF,x4⟩:=Qi;refine G9 (e:=5) (t:=25) (cap:=fun w n=>grownCap w n 0 5) (cells:=fun w n => #[]++Builtin.zeroCells (Value.int .u8 0).cells n++Builtin.zeroCells (Value.int .u8 0).cells (grownCap w n 0 5-n)) ?_ (by kernel_rfl) (i:=⟨1,24,.slice 5 true,[.cJ],[.ff],[]⟩) (by kernel_rfl) rfl Tq (fun a n w h1 h2=>Tr i0 _ GN qy AF x4 a n w h1 h2) ?_ ?_
 ·intro vs w;obtain ⟨c,hc⟩:=Zy.1 (show Tryz.f257.body.isSome=true from by kernel_rfl);have iC : Tryz.f257.name ≠ "runtime.NumGoroutine" := by decide +kernel
  simp[callFunc,Tryz.func257,iC,hc]
 ·intro w n h1 h2;have yT:=grownCap_ge w n 0 5;refine⟨yT,grownCap_le_maxLen w n 0 5 (by unfold maxLen;omega),?_⟩;simp[Builtin.zeroCells,Value.cells];omega
 ·intro xs bl r h;unfold Gr at h;split at h
  ·rename_i n;obtain⟨h1,h2⟩:=aH h;simp only[Bool.and_eq_true,Qa2] at h1;cases h2;exact⟨n,rfl,h1.1,h1.2,rfl,rfl⟩
  ·cases h
theorem XJ:jG Tryz.prog G 283 N7 :=
 vl Tryz.func283 (by decide +kernel) (by kernel_rfl) (by kernel_rfl) (by kernel_rfl) (rt:=3) (by kernel_rfl) (fun xs bl r h=>by
  unfold N7 at h;split at h
  ·cases h;exact⟨_,_,rfl,rfl,rfl⟩
  ·cases h)
theorem Ho : ∀ e ∈ RR, Tryz.prog.funcs[e.1]? = Zw e.2 ∧ e.2.name ≠ "runtime.NumGoroutine" := by
 unfold RR;refine Zz.2 ⟨⟨Tryz.func181,by decide +kernel⟩,?_⟩;refine Zz.2 ⟨⟨Tryz.func232,by decide +kernel⟩,?_⟩;refine Zz.2 ⟨⟨Tryz.func237,by decide +kernel⟩,?_⟩;refine Zz.2 ⟨⟨Tryz.func239,by decide +kernel⟩,?_⟩;refine Zz.2 ⟨⟨Tryz.func86,by decide +kernel⟩,?_⟩;refine Zz.2 ⟨⟨Tryz.func101,by decide +kernel⟩,?_⟩;refine Zz.2 ⟨⟨Tryz.func172,by decide +kernel⟩,?_⟩;refine Zz.2 ⟨⟨Tryz.func176,by decide +kernel⟩,?_⟩;refine Zz.2 ⟨⟨Tryz.func183,by decide +kernel⟩,?_⟩;refine Zz.2 ⟨⟨Tryz.func235,by decide +kernel⟩,?_⟩;refine Zz.2 ⟨⟨Tryz.func87,by decide +kernel⟩,?_⟩;refine Zz.2 ⟨⟨Tryz.func96,by decide +kernel⟩,?_⟩;refine Zz.2 ⟨⟨Tryz.func26,by decide +kernel⟩,?_⟩;refine Zz.2 ⟨⟨Tryz.func178,by decide +kernel⟩,?_⟩;refine Zz.2 ⟨⟨Tryz.func98,by decide +kernel⟩,?_⟩;refine Zz.2 ⟨⟨Tryz.func231,by decide +kernel⟩,?_⟩;refine Zz.2 ⟨⟨Tryz.func173,by decide +kernel⟩,?_⟩;refine Zz.2 ⟨⟨Tryz.func88,by decide +kernel⟩,?_⟩;exact fun e h=>by cases h
theorem nT{α:Type}{k:Nat}{x:α}:∀ {l:List (Nat×α)},look k l=Zw x->(k,x)∈l
 | [],h=>by cases h
 | (j,y)::r,h=>by
  simp only[look] at h;cases hb:Nat.beq j k with
  | false=>rw[hb] at h;exact List.mem_cons_of_mem _ (nT h)
  | true=>rw[hb] at h;cases h;rw[Nat.eq_of_beq_eq_true hb];exact List.mem_cons_self ..
set_option maxHeartbeats 2000000 in
theorem En(i0:TypeInfo)(hi:Tryz.prog.info? 27=Zw i0)(z:Value)(qy:i0.zero=Zw z)(OP:i0.size=1)(KX:i0.bytes=8)(AZ:z.cells.size=1)(a:Addr)(n c:Nat)(xs:List Value)(w:World)(hx:xs.length=n*1)(vo:n<=1000000)(hc:∀ j u,xs[j]? = Zw u->w.cell? (a.add j)=Zw u)(C1:∀ u∈xs,u.oneCell'=true) :
  Calls Tryz.prog 170 #[.slice (Zw a) n c] w fun e w'=>∃ v',e = .returned v'/\w'.ownsRow w.heap.size 27 1 v' n xs/\Below w.heap.size w w':=by
 have UM:∀ (w:World) (a:Option Addr) (n c n' c':Nat),(binOp .eql 39 (.slice a n c) (.slice none n' c')).run Tryz.prog w = .ok (.bool a.isNone) w:=fun w a n c n' c'=>Lib.run_eql_slice_nil w _ _ a n c n' c' Tryz.underlying39;have u22:∀ w,Sem.run Tryz.prog (underlying 39) w = .ok (TypeDesc.slice 27) w:=run_underlying Tryz.underlying39;have z5:∀ w,Sem.run Tryz.prog (Go.sizeOf 27) w = .ok 1 w:=fun w=>by simp[Go.sizeOf,typeInfo,hi,OP]
 have A:Aside (∀ j u,xs[j]? = Zw u->w.cell? (a.add j)=Zw u):=hc;clear hc
 go_enter Tryz.func170,Tryz.ntmps170
 go_wp2_with (at_builtin;refine wpList_append_own _ rfl _ _ 39 rfl w.heap.size 27 i0 z 1 8 Tryz.underlying39 hi qy OP KX AZ (by decide) _ _ _ rfl (World.ownsRow_made w #[] 0 (Zx _) (Nat.zero_le _) rfl) a n c xs rfl ?UN ?UO ?UP ?UQ ?UR ?US ?_)
 case UN=>exact hx
 case UO =>
  intro j u hj;exact Lib.cell?_alloc_some _ (A.out j u hj)
 case UP=>exact C1
 case UQ=>unfold maxLen;omega
 case UR=>omega
 case US=>simp
 intro v' w1 qN EQ EW
 go_wp2
 go_ret
 refine⟨v',rfl,by simpa using qN,?_⟩;exact((Below.refl _ w).alloc (Zx _) _).grown EQ (by simp) (by intro k hk;simp[Value.ownBlock] at hk;omega)
set_option maxHeartbeats 1000000 in
theorem El(n c:Nat)(w:World):Calls Tryz.prog 170 #[.slice none n c] w fun e w'=>e = .returned (.slice none 0 0)/\w'=w:=by
 have UM:∀ (w:World) (a:Option Addr) (n c n' c':Nat),(binOp .eql 39 (.slice a n c) (.slice none n' c')).run Tryz.prog w = .ok (.bool a.isNone) w:=fun w a n c n' c'=>Lib.run_eql_slice_nil w _ _ a n c n' c' Tryz.underlying39
 go_enter Tryz.func170,Tryz.ntmps170
 go_wp2
 go_ret
 exact⟨rfl,rfl⟩
theorem XB:jG Tryz.prog G 170 Nr:=by
 obtain⟨ei,g8⟩:=Zy.1 (show(G.ty 27).isSome=true from by kernel_rfl);obtain⟨i2,n9⟩:=Zy.1 (show(G.ty 39).isSome=true from by kernel_rfl);have q:(G.ty 27).map (fun i=>(i.size,i.bytes))=Zw (1,8)/\(G.ty 39).map (·.kind)=Zw (.slice 27 false):=⟨by kernel_rfl,by kernel_rfl⟩;rw[g8,n9] at q;obtain⟨q1,q2⟩:=q;simp only[Option.map_some,Option.some.injEq,Prod.mk.injEq] at q1 q2;obtain⟨hn,hm⟩:=q1;obtain⟨i0,z,GN,AF,x4,qy,T7,Qh,_⟩:=a_ (Au 27 _ g8);have AZ:z.cells.size=1:=by
  have:=(fc (w:=(default:World)) (p:=fun _=>0) T7).len;rw[Qh,hn] at this;simpa using this
 refine vk (e:=27) (t:=39) (size:=1) ?_ (by kernel_rfl) n9 q2 g8 hn (by decide) El (fun a n c xs w h1 h2 h3 h4=>En i0 GN z qy (AF.trans hn) (x4.trans hm) AZ a n c xs w h1 h2 h3 h4) ?_
 ·intro vs w;obtain ⟨c,hc⟩:=Zy.1 (show Tryz.f170.body.isSome=true from by kernel_rfl);have iC : Tryz.f170.name ≠ "runtime.NumGoroutine" := by decide +kernel
  simp[callFunc,Tryz.func170,iC,hc]
 ·intro xs bl r h;unfold Nr at h;split at h
  ·rename_i els;obtain⟨h1,h2⟩:=aH h;cases h2;exact⟨els,rfl,by
    simp only[Bool.and_eq_true,Qa2] at h1;first | exact h1 | exact h1.2,rfl,rfl⟩
  ·cases h
set_option maxHeartbeats 2000000 in
theorem Eo(i0:TypeInfo)(hi:Tryz.prog.info? 25=Zw i0)(z:Value)(qy:i0.zero=Zw z)(OP:i0.size=1)(KX:i0.bytes=24)(AZ:z.cells.size=1)(a:Addr)(n c:Nat)(xs:List Value)(w:World)(hx:xs.length=n*1)(vo:n<=1000000)(hc:∀ j u,xs[j]? = Zw u->w.cell? (a.add j)=Zw u)(C1:∀ u∈xs,u.oneCell'=true) :
  Calls Tryz.prog 171 #[.slice (Zw a) n c] w fun e w'=>∃ v',e = .returned v'/\w'.ownsRow w.heap.size 25 1 v' n xs/\Below w.heap.size w w':=by
 have UM:∀ (w:World) (a:Option Addr) (n c n' c':Nat),(binOp .eql 32 (.slice a n c) (.slice none n' c')).run Tryz.prog w = .ok (.bool a.isNone) w:=fun w a n c n' c'=>Lib.run_eql_slice_nil w _ _ a n c n' c' Tryz.underlying32;have u22:∀ w,Sem.run Tryz.prog (underlying 32) w = .ok (TypeDesc.slice 25) w:=run_underlying Tryz.underlying32;have z5:∀ w,Sem.run Tryz.prog (Go.sizeOf 25) w = .ok 1 w:=fun w=>by simp[Go.sizeOf,typeInfo,hi,OP]
 have A:Aside (∀ j u,xs[j]? = Zw u->w.cell? (a.add j)=Zw u):=hc;clear hc
 go_enter Tryz.func171,Tryz.ntmps171
 go_wp2_with (at_builtin;refine wpList_append_own _ rfl _ _ 32 rfl w.heap.size 25 i0 z 1 24 Tryz.underlying32 hi qy OP KX AZ (by decide) _ _ _ rfl (World.ownsRow_made w #[] 0 (Zx _) (Nat.zero_le _) rfl) a n c xs rfl ?UN ?UO ?UP ?UQ ?UR ?US ?_)
 case UN=>exact hx
 case UO =>
  intro j u hj;exact Lib.cell?_alloc_some _ (A.out j u hj)
 case UP=>exact C1
 case UQ=>unfold maxLen;omega
 case UR=>omega
 case US=>simp
 intro v' w1 qN EQ EW
 go_wp2
 go_ret
 refine⟨v',rfl,by simpa using qN,?_⟩;exact((Below.refl _ w).alloc (Zx _) _).grown EQ (by simp) (by intro k hk;simp[Value.ownBlock] at hk;omega)
set_option maxHeartbeats 1000000 in
theorem Em(n c:Nat)(w:World):Calls Tryz.prog 171 #[.slice none n c] w fun e w'=>e = .returned (.slice none 0 0)/\w'=w:=by
 have UM:∀ (w:World) (a:Option Addr) (n c n' c':Nat),(binOp .eql 32 (.slice a n c) (.slice none n' c')).run Tryz.prog w = .ok (.bool a.isNone) w:=fun w a n c n' c'=>Lib.run_eql_slice_nil w _ _ a n c n' c' Tryz.underlying32
 go_enter Tryz.func171,Tryz.ntmps171
 go_wp2
 go_ret
 exact⟨rfl,rfl⟩
theorem XC:jG Tryz.prog G 171 Ns:=by
 obtain⟨ei,g8⟩:=Zy.1 (show(G.ty 25).isSome=true from by kernel_rfl);obtain⟨i2,n9⟩:=Zy.1 (show(G.ty 32).isSome=true from by kernel_rfl);have q:(G.ty 25).map (fun i=>(i.size,i.bytes))=Zw (1,24)/\(G.ty 32).map (·.kind)=Zw (.slice 25 false):=⟨by kernel_rfl,by kernel_rfl⟩;rw[g8,n9] at q;obtain⟨q1,q2⟩:=q;simp only[Option.map_some,Option.some.injEq,Prod.mk.injEq] at q1 q2;obtain⟨hn,hm⟩:=q1;obtain⟨i0,z,GN,AF,x4,qy,T7,Qh,_⟩:=a_ (Au 25 _ g8);have AZ:z.cells.size=1:=by
  have:=(fc (w:=(default:World)) (p:=fun _=>0) T7).len;rw[Qh,hn] at this;simpa using this
 refine vk (e:=25) (t:=32) (size:=1) ?_ (by kernel_rfl) n9 q2 g8 hn (by decide) Em (fun a n c xs w h1 h2 h3 h4=>Eo i0 GN z qy (AF.trans hn) (x4.trans hm) AZ a n c xs w h1 h2 h3 h4) ?_
 ·intro vs w;obtain ⟨c,hc⟩:=Zy.1 (show Tryz.f171.body.isSome=true from by kernel_rfl);have iC : Tryz.f171.name ≠ "runtime.NumGoroutine" := by decide +kernel
  simp[callFunc,Tryz.func171,iC,hc]
 ·intro xs bl r h;unfold Ns at h;split at h
  ·rename_i els;obtain⟨h1,h2⟩:=aH h;cases h2;exact⟨els,rfl,by
    simp only[Bool.and_eq_true,Qa2] at h1;first | exact h1 | exact h1.2,rfl,rfl⟩
  ·cases h
set_option maxHeartbeats 2000000 in
theorem QT(i0:TypeInfo)(hi:Tryz.prog.info? 5=Zw i0)(qy:i0.zero=Zw (.int .u8 0))(OP:i0.size=1)(KX:i0.bytes=1)(a:Addr)(n c:Nat)(xs:List Int)(w:World)(hx:xs.length=n)(vo:n<=140737488355328)(hc:∀ i,i<n->w.cell? (a.add i)=Zw (.int .u8 (xs.getD i 0))) :
  Calls Tryz.prog 211 #[.slice (Zw a) n c] w fun e w'=>∃ v',e = .returned v'/\w'.ownsRow w.heap.size 5 1 v' n (xs.map (Value.int .u8))/\Below w.heap.size w w':=by
 have UM:∀ (w:World) (a:Option Addr) (n c n' c':Nat),(binOp .eql 25 (.slice a n c) (.slice none n' c')).run Tryz.prog w = .ok (.bool a.isNone) w:=fun w a n c n' c'=>Lib.run_eql_slice_nil w _ _ a n c n' c' Tryz.underlying25;have u22:∀ w,Sem.run Tryz.prog (underlying 25) w = .ok (TypeDesc.slice 5) w:=run_underlying Tryz.underlying25;have z5:∀ w,Sem.run Tryz.prog (Go.sizeOf 5) w = .ok 1 w:=fun w=>by simp[Go.sizeOf,typeInfo,hi,OP]
 have A:Aside (∀ i,i<n->w.cell? (a.add i)=Zw (.int .u8 (xs.getD i 0))):=hc;clear hc
 go_enter Tryz.func211,Tryz.ntmps211
 go_wp2_with (at_builtin;refine wpList_append_own _ rfl _ _ 25 rfl w.heap.size 5 i0 (.int .u8 0) 1 1 Tryz.underlying25 hi qy OP KX rfl (by decide) _ _ _ rfl (World.ownsRow_made w #[] 0 (Zx _) (Nat.zero_le _) rfl) a n c (xs.map (Value.int .u8)) rfl ?UN ?UO ?UP ?UQ ?UR ?US ?_)
 case UN=>simp;omega
 case UO =>
  intro j u hj;have hjn:j<n:=by
   have:=(List.getElem?_eq_some_iff.1 hj).1;simp at this;omega
  refine Lib.cell?_alloc_some _ ?_;rw[A.out j hjn];have e:(xs.map (Value.int .u8))[j]? = Zw (Value.int .u8 (xs.getD j 0)):=by simp[List.getD,List.getElem?_eq_getElem (show j<xs.length by omega)]
  rw[e] at hj;exact hj
 case UP=>intro u hu;obtain⟨x,_,rfl⟩:=List.mem_map.1 hu;rfl
 case UQ=>unfold maxLen;omega
 case UR=>omega
 case US=>simp
 intro v' w1 qN EQ EW
 go_wp2
 go_ret
 refine⟨v',rfl,by simpa using qN,?_⟩;exact((Below.refl _ w).alloc (Zx _) _).grown EQ (by simp) (by intro k hk;simp[Value.ownBlock] at hk;omega)
set_option maxHeartbeats 1000000 in
theorem QS(n c:Nat)(w:World):Calls Tryz.prog 211 #[.slice none n c] w fun e w'=>e = .returned (.slice none 0 0)/\w'=w:=by
 have UM:∀ (w:World) (a:Option Addr) (n c n' c':Nat),(binOp .eql 25 (.slice a n c) (.slice none n' c')).run Tryz.prog w = .ok (.bool a.isNone) w:=fun w a n c n' c'=>Lib.run_eql_slice_nil w _ _ a n c n' c' Tryz.underlying25
 go_enter Tryz.func211,Tryz.ntmps211
 go_wp2
 go_ret
 exact⟨rfl,rfl⟩
theorem XE:jG Tryz.prog G 211 Ad:=by
 obtain⟨i0,GN,qy,AF,x4⟩:=Qi;refine EK (e:=5) (t:=25) ?_ (by kernel_rfl) QS (fun a n c xs w h1 h2 h3=>QT i0 GN qy AF x4 a n c xs w h1 h2 h3) ?_
 ·intro vs w;obtain ⟨c,hc⟩:=Zy.1 (show Tryz.f211.body.isSome=true from by kernel_rfl);have iC : Tryz.f211.name ≠ "runtime.NumGoroutine" := by decide +kernel
  simp[callFunc,Tryz.func211,iC,hc]
 ·intro xs bl r h;unfold Ad at h;split at h
  ·rename_i n;obtain⟨h1,h2⟩:=aH h;cases h2;exact⟨n,rfl,Qa3 h1,rfl,rfl⟩
  ·cases h
theorem G_(a:Option Addr)(w:World):Calls Tryz.prog 258 #[.slice a 0 0,.int .i64 0] w fun e w'=>e = .returned (.slice a 0 0)/\w'=w:=by
 go_enter Tryz.func258,Tryz.ntmps258
 go_wp2
 go_ret
 exact⟨rfl,rfl⟩
set_option maxHeartbeats 4000000 in
theorem Ha(i0:TypeInfo)(z:Value)(GN:Tryz.prog.info? 27=Zw i0)(qy:i0.zero=Zw z)(AF:i0.size=1)(x4:i0.bytes=8)(AZ:z.cells.size=1)(a:Option Addr)(n:Nat)(w:World)(h0:0<n)(hn:n<=1000000000000):Calls Tryz.prog 258 #[.slice a 0 0,.int .i64 n] w fun e w' =>
   e = .returned (.slice (Zw ⟨w.heap.size,0,none⟩) 0 (grownCap w n 0 27)) /\
   w'=w.drew.alloc (.cells (#[]++Builtin.zeroCells z.cells n++Builtin.zeroCells z.cells (grownCap w n 0 27-n)) 27):=by
 have h1:¬ ((n:Int)<0):=by omega
 have h3:wrap64 ((n:Int))=(n:Int):=by unfold wrap64;omega
 have h4:(n:Int)>0:=by omega
 have hold:(Builtin.firstCells i0.size 0 (.slice a 0 0)).run Tryz.prog w.drew = .ok #[] w.drew:=by
  cases a with
  | none=>exact run_firstCells_none w.drew i0.size 0 0 0
  | some a=>exact run_firstCells_some w.drew i0.size 0 a 0 0 [] (by simp) (fun j v hj=>by simp at hj)
 have tW:Builtin.nextslicecap (0+n) 0*i0.bytes<=281474976710656:=growslice_fits (by omega) (by rw[x4];omega);have Ub:∀ ty,(Builtin.append_ #[39,3] ty #[.slice a 0 0,.int .i64 (n:Int)]).run Tryz.prog w =
   .ok (.slice (Zw ⟨w.heap.size,0,none⟩) n (grownCap w n 0 27)) (w.drew.alloc (.cells (#[]++Builtin.zeroCells z.cells n++Builtin.zeroCells z.cells (grownCap w n 0 27-n)) 27)):=fun ty=>by
  have h:=Lib.run_append_grow_zeros w 39 3 ty 27 i0 z .i64 .i64 Tryz.underlying39 Tryz.underlying3 GN qy a 0 0 [] hold n h0 (by omega) (by omega) (by omega) (by rw[x4];omega) tW;simpa using h
 clear hold tW
 go_enter Tryz.func258,Tryz.ntmps258
 cases a with
 | none =>
  go_wp2_with (at_builtin;refine Lib.wpList_append_run _ rfl _ _ _ _ rfl _ _ rfl rfl _ _ (Ub _) ?_)
  all_goals (go_ret;exact⟨rfl,rfl⟩)
 | some a =>
  obtain⟨ab,ao,asp⟩:=a
  go_wp2_with (at_builtin;refine Lib.wpList_append_run _ rfl _ _ _ _ rfl _ _ rfl rfl _ _ (Ub _) ?_)
  all_goals (go_ret;exact⟨rfl,rfl⟩)
theorem XH:jG Tryz.prog G 258 Gs:=by
 obtain⟨ei,g8⟩:=Zy.1 (show(G.ty 27).isSome=true from by kernel_rfl);obtain⟨i2,n9⟩:=Zy.1 (show(G.ty 39).isSome=true from by kernel_rfl);have q:(G.ty 27).map (fun i=>(i.size,i.bytes))=Zw (1,8)/\(G.ty 39).map (·.kind)=Zw (.slice 27 false):=⟨by kernel_rfl,by kernel_rfl⟩;rw[g8,n9] at q;obtain⟨q1,q2⟩:=q;simp only[Option.map_some,Option.some.injEq,Prod.mk.injEq] at q1 q2;obtain⟨hn,hm⟩:=q1;obtain⟨i0,z,GN,AF,x4,qy,T7,Qh,_⟩:=a_ (Au 27 _ g8);have AZ:z.cells.size=1:=by
  have:=(fc (w:=(default:World)) (p:=fun _=>0) T7).len;rw[Qh,hn] at this;simpa using this
 refine EL (e:=27) (t:=39) (cap:=fun w n=>grownCap w n 0 27) (cells:=fun w n => #[]++Builtin.zeroCells z.cells n++Builtin.zeroCells z.cells (grownCap w n 0 27-n)) ?_ (by kernel_rfl) n9 q2 g8 (by rw[hn];decide) G_ (fun a n w h1 h2=>Ha i0 z GN qy (AF.trans hn) (x4.trans hm) AZ a n w h1 h2) ?_ ?_
 ·intro vs w;obtain ⟨c,hc⟩:=Zy.1 (show Tryz.f258.body.isSome=true from by kernel_rfl);have iC : Tryz.f258.name ≠ "runtime.NumGoroutine" := by decide +kernel
  simp[callFunc,Tryz.func258,iC,hc]
 ·intro w n h1 h2;have yT:=grownCap_ge w n 0 27;refine⟨yT,grownCap_le_maxLen w n 0 27 (by unfold maxLen;omega),?_⟩;have hz:∀ k,(Builtin.zeroCells z.cells k).size=k*z.cells.size:=fun k=>by simp[Builtin.zeroCells]
  rw[Array.size_append,Array.size_append,hz,hz,AZ,hn];simp;omega
 ·intro xs bl r h;unfold Gs at h;split at h
  ·rename_i n;obtain⟨h1,h2⟩:=aH h;simp only[Bool.and_eq_true,Qa2] at h1;cases h2;exact⟨n,rfl,h1.1,h1.2,rfl,rfl⟩
  ·cases h
abbrev PZ(e:Nat×Nat×List CT×Sp):Prop:=jG Tryz.prog G e.1 e.2.2.2\/Cq Tryz.prog G e.1 e.2.1 e.2.2.2
theorem U6:∀ e∈KN,PZ e :=
 each (.inr w17) <| each (.inr w21) <| each (.inr w24) <| each (.inr w46) <| each (.inr w89) <| each (.inr w90) <| each (.inr w92) <| each (.inr w94) <| each (.inr w95) <| each (.inr ZR) <| each (.inr ZX) <| each (.inr ZY) <| each (.inr aac) <| each (.inr aad) <| each (.inr aag) <| each (.inr aai) <| each (.inr aaq) <| each (.inr aau) <| each (.inr aax) <| each (.inl XB) <| each (.inl XC) <| each (.inr aaI) <| each (.inr aaJ) <| each (.inr aaN) <| each (.inr aa2) <| each (.inr aa3) <| each (.inr aa4) <| each (.inr aa7) <| each (.inl XE) <| each (.inr abe) <| each (.inr abh) <| each (.inr abi) <| each (.inr abm) <| each (.inr abp) <| each (.inr abr) <| each (.inr abt) <| each (.inr abv) <| each (.inr abx) <| each (.inr abB) <| each (.inr abH) <| each (.inr abI) <| each (.inl XF) <| each (.inr abJ) <| each (.inl XG) <| each (.inl XH) <| each (.inr abN) <| each (.inr abT) <| each (.inr abY) <| each (.inr ab2) <| each (.inr ab5) <| each (.inl XJ) <| each (.inr w29) <| each (.inr w60) <| each (.inr w91) <| each (.inr w93) <| each (.inr ZP) <| each (.inr ZS) <| each (.inr ZT) <| each (.inr ZU) <| each (.inr ZV) <| each (.inr ZW) <| each (.inr Z_) <| each (.inr aam) <| each (.inr aaK) <| each (.inr aa5) <| each (.inr aa8) <| each (.inr abd) <| each (.inr abo) <| each (.inr abw) <| each (.inr aby) <| each (.inr abM) <| each (.inr abV) <| each (.inr ab6) <| each (.inr w25) <| each (.inr w36) <| each (.inr w40) <| each (.inr w42) <| each (.inr w59) <| each (.inr w67) <| each (.inr w71) <| each (.inr w97) <| each (.inr ZQ) <| each (.inr Z0) <| each (.inr aaf) <| each (.inr aah) <| each (.inr aaj) <| each (.inr aal) <| each (.inr aao) <| each (.inr aas) <| each (.inr aaF) <| each (.inr aaO) <| each (.inr aaP) <| each (.inr abf) <| each (.inr abg) <| each (.inr abn) <| each (.inr abK) <| each (.inr abP) <| each (.inr abU) <| each (.inr abW) <| each (.inr abX) <| each (.inr abZ) <| each (.inr ab0) <| each (.inr ab1) <| each (.inr ab7) <| each (.inr w22) <| each (.inr w37) <| each (.inr w39) <| each (.inr w41) <| each (.inr w43) <| each (.inr w63) <| each (.inr gf) <| each (.inr w65) <| each (.inr w66) <| each (.inr w68) <| each (.inr w69) <| each (.inr w70) <| each (.inr w73) <| each (.inr Z') <| each (.inr aae) <| each (.inr aan) <| each (.inr aat) <| each (.inr aay) <| each (.inr aaD) <| each (.inr aaG) <| each (.inr aaR) <| each (.inr aaW) <| each (.inr aaX) <| each (.inr aa0) <| each (.inr aa_) <| each (.inr aa') <| each (.inr abb) <| each (.inr abj) <| each (.inr abz) <| each (.inr abE) <| each (.inr abO) <| each (.inr abQ) <| each (.inr abR) <| each (.inr ab4) <| each (.inr w61) <| each (.inr w62) <| each (.inr ZZ) <| each (.inr aav) <| each (.inr aaw) <| each (.inr aaC) <| each (.inr aaM) <| each (.inr aaU) <| each (.inr aaV) <| each (.inr abl) <| each (.inr abq) <| each (.inr abC) <| each (.inr abD) <| each (.inr abG) <| each (.inr ab3) <| each (.inr w23) <| each (.inr w44) <| each (.inr w45) <| each (.inr w75) <| each (.inr Z1) <| each (.inr Z5) <| each (.inr Z6) <| each (.inr aaZ) <| each (.inr abA) <| each (.inr abS) <| fun e h=>nomatch h
theorem Zc:∀ e∈PT,e.2.1<7->PZ e :=
 MA (A:=KN) (B:=KO++Ot) (by kernel_rfl) U6 (by kernel_rfl)
theorem XI:jG Tryz.prog G 259 Cb :=
 Bq (sn:=sq) (BZ (by kernel_rfl) Au (fun f fn h=>Ho (f,fn) (nT h)) (f:=259) (k:=7) (ct:=[.sl 1,.int .i64,.int .i64,.int .i64]) (s':=Cb) rfl (fun g r c s h hr=>Zc (g,r,c,s) (nT h) hr) abL) (fun xs bl r h=>by
  unfold Cb at h;split at h
  ·rename_i a b l els;obtain⟨aB,h2⟩:=aH h;refine⟨(b-a).toNat+1,?_⟩;show az (_&&_) _=_;rw[ae (by rw[aB,Bool.true_and,Qa2];omega)];exact h2
  ·cases h)
theorem ZG:∀ e∈KO,PZ e :=
 each (.inr w38) <| each (.inr w47) <| each (.inr Z8) <| each (.inr aaS) <| each (.inr aa6) <| each (.inl XI) <| each (.inr w14) <| each (.inr Z3) <| each (.inr aak) <| each (.inr aar) <| each (.inr aaE) <| each (.inr aaH) <| each (.inr aaQ) <| each (.inr aaT) <| each (.inr aa1) <| each (.inr aa9) <| each (.inr abk) <| each (.inr abu) <| each (.inr abF) <| each (.inr w9) <| each (.inr w74) <| each (.inr Z2) <| each (.inr Z4) <| each (.inr aap) <| each (.inr aaz) <| each (.inr aaA) <| each (.inr aaB) <| each (.inr aaL) <| each (.inr aaY) <| each (.inr w72) <| each (.inr w76) <| each (.inr w77) <| each (.inr w78) <| each (.inr Z7) <| each (.inr Z9) <| each (.inr w15) <| each (.inr w48) <| fun e h=>nomatch h
theorem PG:∀ e∈KN++KO,PZ e:=fun e h=>(List.mem_append.1 h).elim (U6 e) (ZG e)
theorem Ze:∀ e∈PT,e.2.1<12->PZ e :=
 MA (A:=KN++KO) (B:=Ot) (by kernel_rfl) PG (by kernel_rfl)
theorem XA:jG Tryz.prog G 102 Ca :=
 Bq (sn:=B_) (BZ (by kernel_rfl) Au (fun f fn h=>Ho (f,fn) (nT h)) (f:=102) (k:=12) (ct:=[.ptr,.ff]) (s':=Ca) rfl (fun g r c s h hr=>Ze (g,r,c,s) (nT h) hr) ZO) (fun xs bl r h=>by
  unfold Ca at h;split at h
  ·rename_i b ks bs;obtain⟨aB,h2⟩:=aH h;refine⟨((b.length:Int)).toNat+1,?_⟩;show az (_&&_) _=_;rw[ae (by rw[aB,Bool.true_and,Qa2];omega)];exact h2
  ·cases h)
theorem ZH:∀ e∈Ot,PZ e :=
 each (.inr w11) <| each (.inl XA) <| each (.inr w31) <| each (.inr w33) <| each (.inr w19) <| each (.inr w27) <| each (.inr w8) <| each (.inr w18) <| each (.inr w7) <| fun e h=>nomatch h
theorem Zs:∀ e∈KN++KO++Ot,PZ e:=fun e h=>(List.mem_append.1 h).elim (PG e) (ZH e)
theorem QI:∀ e∈PT,PZ e:=Zs
theorem uC:Bj Tryz.prog G where
 mixed:=by kernel_rfl
 ty:=Au
 each:=fun f k ct s h=>QI (f,k,ct,s) (nT h)
 inl:=fun f fn h=>Ho (f,fn) (nT h)
theorem own:ownKnob Tryz.prog.godebug=none:=by kernel_rfl
theorem laidOut:laidOutB Tryz.prog=true:=by kernel_rfl
end Go.Proofs.YteafbgcimcpfiaaGreat
