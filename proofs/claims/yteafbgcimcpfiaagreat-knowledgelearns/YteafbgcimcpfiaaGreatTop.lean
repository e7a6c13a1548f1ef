/- The table is right, and the laws. -/
import Derived.Test.YteafbgcimcpfiaaGreatWalk5
import Derived.Test.YteafbgcimcpfiaaGreatRows
set_option linter.all false
open Go.IntKind renaming i64->AI
open List renaming forall_mem_cons->Zz
open Option renaming isSome_iff_exists->Zy,some->Zw
open Nat renaming le_refl->Zx
namespace Go.Proofs.YteafbgcimcpfiaaGreat
open Go Go.Abs Go.Proofs
open Go.ChangeShapes Go.WideShapes Go.ChangeAt Go.RowKit Go.Lib
set_option maxRecDepth 100000
theorem W3:(List.range 298).map (λt=>match (W2[t]?).join with | some _=>fh Tryz.prog t | none=>none)=W2:=by kernel_rfl
theorem yQ:∀ t i,G.ty t=Zw i->fh Tryz.prog t=Zw i:=by
 intro t i h;have h1:(W2[t]?).join=Zw i:=h;have h2:W2[t]? = Zw (Zw i):=by
  cases hx:W2[t]? with
  | none=>rw[hx] at h1;cases h1
  | some x=>rw[hx] at h1;rw[show x=Zw i from h1]
 have h3:((List.range 298).map (λt=>match (W2[t]?).join with | some _=>fh Tryz.prog t | none=>none))[t]? = Zw (Zw i):=by rw[W3];exact h2
 rw[List.getElem?_map] at h3;cases hr:(List.range 298)[t]? with
 | none=>rw[hr] at h3;cases h3
 | some y =>
  rw[hr] at h3;have hy:y=t:=by
   have:=(List.getElem?_eq_some_iff.1 hr).2;simpa using this.symm
  subst hy;simp only[Option.map_some,h1,Option.some.injEq] at h3;exact h3
theorem acx:kE Tryz.prog G 254 Ry :=
 Hx Tryz.func254 (by decide +kernel) (by kernel_rfl) (by kernel_rfl) (by kernel_rfl) (rt:=3) (by kernel_rfl) (λxs bl r h=>by
  unfold Ry at h;split at h
  .cases h;exact⟨_,_,rfl,rfl,rfl⟩
  .cases h)
theorem YH(a:Option Addr)(w:World):Calls Tryz.prog 257 #[.slice a 0 0,.int AI 0] w λe w'=>e = .returned (.slice a 0 0)/\w'=w:=by
 go_enter Tryz.func257,Tryz.ntmps257
 go_wp2
 go_ret
 exact⟨rfl,rfl⟩
set_option maxHeartbeats 4000000 in
theorem YI(i0:TypeInfo)(z:Value)(JQ:Tryz.prog.info? 5=Zw i0)(tp:i0.zero=Zw z)(z7:i0.size=1)(AG:i0.bytes=1)(a:Option Addr)(n:Nat)(w:World)(h0:0<n)(hn:n<=140737488355328):Calls Tryz.prog 257 #[.slice a 0 0,.int AI n] w λe w' =>
   e = .returned (.slice (Zw ⟨w.heap.size,0,none⟩) 0 (grownCap w n 0 5)) /\
   w'=w.drew.alloc (.cells (#[]++Builtin.zeroCells z.cells n++Builtin.zeroCells z.cells (grownCap w n 0 5-n)) 5):=by
 have h1:¬ ((n:Int)<0):=by omega
 have h3:wrap64 ((n:Int))=(n:Int):=by unfold wrap64;omega
 have h4:(n:Int)>0:=by omega
 have hold:(Builtin.firstCells i0.size 0 (.slice a 0 0)).run Tryz.prog w.drew = .ok #[] w.drew:=by
  cases a with
  | none=>exact run_firstCells_none w.drew i0.size 0 0 0
  | some a=>exact run_firstCells_some w.drew i0.size 0 a 0 0 [] (by simp) (λj v hj=>by simp at hj)
 have wE:Builtin.nextslicecap (0+n) 0*i0.bytes<=281474976710656:=growslice_fits (by omega) (by rw[AG];omega);have ZI:∀ ty,(Builtin.append_ #[25,3] ty #[.slice a 0 0,.int AI (n:Int)]).run Tryz.prog w =
   .ok (.slice (Zw ⟨w.heap.size,0,none⟩) n (grownCap w n 0 5)) (w.drew.alloc (.cells (#[]++Builtin.zeroCells z.cells n++Builtin.zeroCells z.cells (grownCap w n 0 5-n)) 5)):=λty=>by
  have h:=Lib.run_append_grow_zeros w 25 3 ty 5 i0 z AI AI Tryz.underlying25 Tryz.underlying3 JQ tp a 0 0 [] hold n h0 (by omega) (by omega) (by omega) (by rw[AG];omega) wE;simpa using h
 clear hold wE
 go_enter Tryz.func257,Tryz.ntmps257
 cases a with
 | none =>
  go_wp2_with (at_builtin;refine Lib.wpList_append_run _ rfl _ _ _ _ rfl _ _ rfl rfl _ _ (ZI _) ?_)
  all_goals (go_ret;exact⟨rfl,rfl⟩)
 | some a =>
  obtain⟨ab,ao,asp⟩:=a
  go_wp2_with (at_builtin;refine Lib.wpList_append_run _ rfl _ _ _ _ rfl _ _ rfl rfl _ _ (ZI _) ?_)
  all_goals (go_ret;exact⟨rfl,rfl⟩)
theorem Uf:∃ i0,Tryz.prog.info? 5=Zw i0/\i0.zero=Zw (.int .u8 0)/\i0.size=1/\i0.bytes=1:=by
 obtain⟨info,z,h1,h2,h3,h4,h5,_⟩:=bA (yQ 5 _ (show G.ty 5=Zw ⟨1,1,.u8,[.u8 0],[.u8],[.u8]⟩ from by kernel_rfl));obtain⟨Sw,ei,v_,xg,M2,LV⟩:=jp (show Dv Tryz.prog 5=true from by kernel_rfl);exact⟨ei,v_,LV,xg,M2⟩
theorem acy:kE Tryz.prog G 257 Ju:=by
 obtain⟨i0,JQ,tp,z7,AG⟩:=Uf;refine Ke (e:=5) (t:=25) (cap:=λw n=>grownCap w n 0 5) (cells:=λw n => #[]++Builtin.zeroCells (Value.int .u8 0).cells n++Builtin.zeroCells (Value.int .u8 0).cells (grownCap w n 0 5-n)) ?_ (by kernel_rfl) (i:=⟨1,24,.slice 5 true,[.dq],[.eV],[]⟩) (by kernel_rfl) rfl YH (λa n w h1 h2=>YI i0 _ JQ tp z7 AG a n w h1 h2) ?_ ?_
 .intro vs w;obtain ⟨c,hc⟩:=Zy.1 (show Tryz.f257.body.isSome=true from by kernel_rfl);have jP : Tryz.f257.name ≠ "runtime.NumGoroutine" := by decide +kernel
  simp[callFunc,Tryz.func257,jP,hc]
 .intro w n h1 h2;have Bt:=grownCap_ge w n 0 5;refine⟨Bt,grownCap_le_maxLen w n 0 5 (by unfold maxLen;omega),?_⟩;simp[Builtin.zeroCells,Value.cells];omega
 .intro xs bl r h;unfold Ju at h;split at h
  .rename_i n;obtain⟨h1,h2⟩:=aL h;simp only[Bool.and_eq_true,Qa2] at h1;cases h2;exact⟨n,rfl,h1.1,h1.2,rfl,rfl⟩
  .cases h
theorem acB:kE Tryz.prog G 283 RH :=
 xW Tryz.func283 (by decide +kernel) (by kernel_rfl) (by kernel_rfl) (by kernel_rfl) (rt:=3) (by kernel_rfl) (λxs bl r h=>by
  unfold RH at h;split at h
  .cases h;exact⟨_,_,rfl,rfl,rfl⟩
  .cases h)
theorem BE : ∀ e ∈ V2, Tryz.prog.funcs[e.1]? = Zw e.2 ∧ e.2.name ≠ "runtime.NumGoroutine" := by
 unfold V2;refine Zz.2 ⟨⟨Tryz.func103,by decide +kernel⟩,?_⟩;refine Zz.2 ⟨⟨Tryz.func181,by decide +kernel⟩,?_⟩;refine Zz.2 ⟨⟨Tryz.func232,by decide +kernel⟩,?_⟩;refine Zz.2 ⟨⟨Tryz.func237,by decide +kernel⟩,?_⟩;refine Zz.2 ⟨⟨Tryz.func239,by decide +kernel⟩,?_⟩;refine Zz.2 ⟨⟨Tryz.func86,by decide +kernel⟩,?_⟩;refine Zz.2 ⟨⟨Tryz.func101,by decide +kernel⟩,?_⟩;refine Zz.2 ⟨⟨Tryz.func172,by decide +kernel⟩,?_⟩;refine Zz.2 ⟨⟨Tryz.func176,by decide +kernel⟩,?_⟩;refine Zz.2 ⟨⟨Tryz.func183,by decide +kernel⟩,?_⟩;refine Zz.2 ⟨⟨Tryz.func235,by decide +kernel⟩,?_⟩;refine Zz.2 ⟨⟨Tryz.func87,by decide +kernel⟩,?_⟩;refine Zz.2 ⟨⟨Tryz.func96,by decide +kernel⟩,?_⟩;refine Zz.2 ⟨⟨Tryz.func26,by decide +kernel⟩,?_⟩;refine Zz.2 ⟨⟨Tryz.func134,by decide +kernel⟩,?_⟩;refine Zz.2 ⟨⟨Tryz.func178,by decide +kernel⟩,?_⟩;refine Zz.2 ⟨⟨Tryz.func98,by decide +kernel⟩,?_⟩;refine Zz.2 ⟨⟨Tryz.func231,by decide +kernel⟩,?_⟩;refine Zz.2 ⟨⟨Tryz.func173,by decide +kernel⟩,?_⟩;refine Zz.2 ⟨⟨Tryz.func88,by decide +kernel⟩,?_⟩;exact λe h=>by cases h
theorem kX{O:Type}{k:Nat}{x:O}:∀ {l:List (Nat×O)},look k l=Zw x->(k,x)∈l
 | [],h=>by cases h
 | (j,y)::r,h=>by
  simp only[look] at h;cases hb:Nat.beq j k with
  | false=>rw[hb] at h;exact List.mem_cons_of_mem _ (kX h)
  | true=>rw[hb] at h;cases h;rw[Nat.eq_of_beq_eq_true hb];exact List.mem_cons_self ..
set_option maxHeartbeats 2000000 in
theorem G9(i0:TypeInfo)(hi:Tryz.prog.info? 27=Zw i0)(z:Value)(tp:i0.zero=Zw z)(Sx:i0.size=1)(L7:i0.bytes=8)(Du:z.cells.size=1)(a:Addr)(n c:Nat)(xs:List Value)(w:World)(hx:xs.length=n*1)(x3:n<=1000000)(hc:∀ j u,xs[j]? = Zw u->w.cell? (a.add j)=Zw u)(FA:∀ u∈xs,u.oneCell'=true) :
  Calls Tryz.prog 170 #[.slice (Zw a) n c] w λe w'=>∃ v',e = .returned v'/\w'.ownsRow w.heap.size 27 1 v' n xs/\Below w.heap.size w w':=by
 have q22:∀ (w:World) (a:Option Addr) (n c n' c':Nat),(binOp .eql 39 (.slice a n c) (.slice none n' c')).run Tryz.prog w = .ok (.bool a.isNone) w:=λw a n c n' c'=>Lib.run_eql_slice_nil w _ _ a n c n' c' Tryz.underlying39;have u22:∀ w,Sem.run Tryz.prog (underlying 39) w = .ok (TypeDesc.slice 27) w:=run_underlying Tryz.underlying39;have z5:∀ w,Sem.run Tryz.prog (Go.sizeOf 27) w = .ok 1 w:=λw=>by simp[Go.sizeOf,typeInfo,hi,Sx]
 have A:Aside (∀ j u,xs[j]? = Zw u->w.cell? (a.add j)=Zw u):=hc;clear hc
 go_enter Tryz.func170,Tryz.ntmps170
 go_wp2_with (at_builtin;refine wpList_append_own _ rfl _ _ 39 rfl w.heap.size 27 i0 z 1 8 Tryz.underlying39 hi tp Sx L7 Du (by decide) _ _ _ rfl (World.ownsRow_made w #[] 0 (Zx _) (Nat.zero_le _) rfl) a n c xs rfl ?qc1 ?qc2 ?qc3 ?qc4 ?qc5 ?qc6 ?_)
 case qc1=>exact hx
 case qc2 =>
  intro j u hj;exact Lib.cell?_alloc_some _ (A.out j u hj)
 case qc3=>exact FA
 case qc4=>unfold maxLen;omega
 case qc5=>omega
 case qc6=>simp
 intro v' w1 tH HC HK
 go_wp2
 go_ret
 refine⟨v',rfl,by simpa using tH,?_⟩;exact((Below.refl _ w).alloc (Zx _) _).grown HC (by simp) (by intro k hk;simp[Value.ownBlock] at hk;omega)
set_option maxHeartbeats 1000000 in
theorem G7(n c:Nat)(w:World):Calls Tryz.prog 170 #[.slice none n c] w λe w'=>e = .returned (.slice none 0 0)/\w'=w:=by
 have q22:∀ (w:World) (a:Option Addr) (n c n' c':Nat),(binOp .eql 39 (.slice a n c) (.slice none n' c')).run Tryz.prog w = .ok (.bool a.isNone) w:=λw a n c n' c'=>Lib.run_eql_slice_nil w _ _ a n c n' c' Tryz.underlying39
 go_enter Tryz.func170,Tryz.ntmps170
 go_wp2
 go_ret
 exact⟨rfl,rfl⟩
theorem acs:kE Tryz.prog G 170 Q1:=by
 obtain⟨ei,jm⟩:=Zy.1 (show(G.ty 27).isSome=true from by kernel_rfl);obtain⟨i2,jz⟩:=Zy.1 (show(G.ty 39).isSome=true from by kernel_rfl);have q:(G.ty 27).map (λi=>(i.size,i.bytes))=Zw (1,8)/\(G.ty 39).map (·.kind)=Zw (.slice 27 false):=⟨by kernel_rfl,by kernel_rfl⟩;rw[jm,jz] at q;obtain⟨q1,q2⟩:=q;simp only[Option.map_some,Option.some.injEq,Prod.mk.injEq] at q1 q2;obtain⟨hn,hm⟩:=q1;obtain⟨i0,z,JQ,z7,AG,tp,ZC,Ue,_⟩:=bA (yQ 27 _ jm);have Du:z.cells.size=1:=by
  have:=(gw (w:=(default:World)) (p:=λ_=>0) ZC).len;rw[Ue,hn] at this;simpa using this
 refine xV (e:=27) (t:=39) (size:=1) ?_ (by kernel_rfl) jz q2 jm hn (by decide) G7 (λa n c xs w h1 h2 h3 h4=>G9 i0 JQ z tp (z7.trans hn) (AG.trans hm) Du a n c xs w h1 h2 h3 h4) ?_
 .intro vs w;obtain ⟨c,hc⟩:=Zy.1 (show Tryz.f170.body.isSome=true from by kernel_rfl);have jP : Tryz.f170.name ≠ "runtime.NumGoroutine" := by decide +kernel
  simp[callFunc,Tryz.func170,jP,hc]
 .intro xs bl r h;unfold Q1 at h;split at h
  .rename_i els;obtain⟨h1,h2⟩:=aL h;cases h2;exact⟨els,rfl,by
    simp only[Bool.and_eq_true,Qa2] at h1;first | exact h1 | exact h1.2,rfl,rfl⟩
  .cases h
set_option maxHeartbeats 2000000 in
theorem G_(i0:TypeInfo)(hi:Tryz.prog.info? 25=Zw i0)(z:Value)(tp:i0.zero=Zw z)(Sx:i0.size=1)(L7:i0.bytes=24)(Du:z.cells.size=1)(a:Addr)(n c:Nat)(xs:List Value)(w:World)(hx:xs.length=n*1)(x3:n<=1000000)(hc:∀ j u,xs[j]? = Zw u->w.cell? (a.add j)=Zw u)(FA:∀ u∈xs,u.oneCell'=true) :
  Calls Tryz.prog 171 #[.slice (Zw a) n c] w λe w'=>∃ v',e = .returned v'/\w'.ownsRow w.heap.size 25 1 v' n xs/\Below w.heap.size w w':=by
 have q22:∀ (w:World) (a:Option Addr) (n c n' c':Nat),(binOp .eql 32 (.slice a n c) (.slice none n' c')).run Tryz.prog w = .ok (.bool a.isNone) w:=λw a n c n' c'=>Lib.run_eql_slice_nil w _ _ a n c n' c' Tryz.underlying32;have u22:∀ w,Sem.run Tryz.prog (underlying 32) w = .ok (TypeDesc.slice 25) w:=run_underlying Tryz.underlying32;have z5:∀ w,Sem.run Tryz.prog (Go.sizeOf 25) w = .ok 1 w:=λw=>by simp[Go.sizeOf,typeInfo,hi,Sx]
 have A:Aside (∀ j u,xs[j]? = Zw u->w.cell? (a.add j)=Zw u):=hc;clear hc
 go_enter Tryz.func171,Tryz.ntmps171
 go_wp2_with (at_builtin;refine wpList_append_own _ rfl _ _ 32 rfl w.heap.size 25 i0 z 1 24 Tryz.underlying32 hi tp Sx L7 Du (by decide) _ _ _ rfl (World.ownsRow_made w #[] 0 (Zx _) (Nat.zero_le _) rfl) a n c xs rfl ?qc1 ?qc2 ?qc3 ?qc4 ?qc5 ?qc6 ?_)
 case qc1=>exact hx
 case qc2 =>
  intro j u hj;exact Lib.cell?_alloc_some _ (A.out j u hj)
 case qc3=>exact FA
 case qc4=>unfold maxLen;omega
 case qc5=>omega
 case qc6=>simp
 intro v' w1 tH HC HK
 go_wp2
 go_ret
 refine⟨v',rfl,by simpa using tH,?_⟩;exact((Below.refl _ w).alloc (Zx _) _).grown HC (by simp) (by intro k hk;simp[Value.ownBlock] at hk;omega)
set_option maxHeartbeats 1000000 in
theorem G8(n c:Nat)(w:World):Calls Tryz.prog 171 #[.slice none n c] w λe w'=>e = .returned (.slice none 0 0)/\w'=w:=by
 have q22:∀ (w:World) (a:Option Addr) (n c n' c':Nat),(binOp .eql 32 (.slice a n c) (.slice none n' c')).run Tryz.prog w = .ok (.bool a.isNone) w:=λw a n c n' c'=>Lib.run_eql_slice_nil w _ _ a n c n' c' Tryz.underlying32
 go_enter Tryz.func171,Tryz.ntmps171
 go_wp2
 go_ret
 exact⟨rfl,rfl⟩
theorem acu:kE Tryz.prog G 171 Q2:=by
 obtain⟨ei,jm⟩:=Zy.1 (show(G.ty 25).isSome=true from by kernel_rfl);obtain⟨i2,jz⟩:=Zy.1 (show(G.ty 32).isSome=true from by kernel_rfl);have q:(G.ty 25).map (λi=>(i.size,i.bytes))=Zw (1,24)/\(G.ty 32).map (·.kind)=Zw (.slice 25 false):=⟨by kernel_rfl,by kernel_rfl⟩;rw[jm,jz] at q;obtain⟨q1,q2⟩:=q;simp only[Option.map_some,Option.some.injEq,Prod.mk.injEq] at q1 q2;obtain⟨hn,hm⟩:=q1;obtain⟨i0,z,JQ,z7,AG,tp,ZC,Ue,_⟩:=bA (yQ 25 _ jm);have Du:z.cells.size=1:=by
  have:=(gw (w:=(default:World)) (p:=λ_=>0) ZC).len;rw[Ue,hn] at this;simpa using this
 refine xV (e:=25) (t:=32) (size:=1) ?_ (by kernel_rfl) jz q2 jm hn (by decide) G8 (λa n c xs w h1 h2 h3 h4=>G_ i0 JQ z tp (z7.trans hn) (AG.trans hm) Du a n c xs w h1 h2 h3 h4) ?_
 .intro vs w;obtain ⟨c,hc⟩:=Zy.1 (show Tryz.f171.body.isSome=true from by kernel_rfl);have jP : Tryz.f171.name ≠ "runtime.NumGoroutine" := by decide +kernel
  simp[callFunc,Tryz.func171,jP,hc]
 .intro xs bl r h;unfold Q2 at h;split at h
  .rename_i els;obtain⟨h1,h2⟩:=aL h;cases h2;exact⟨els,rfl,by
    simp only[Bool.and_eq_true,Qa2] at h1;first | exact h1 | exact h1.2,rfl,rfl⟩
  .cases h
set_option maxHeartbeats 2000000 in
theorem UQ(i0:TypeInfo)(hi:Tryz.prog.info? 5=Zw i0)(tp:i0.zero=Zw (.int .u8 0))(Sx:i0.size=1)(L7:i0.bytes=1)(a:Addr)(n c:Nat)(xs:List Int)(w:World)(hx:xs.length=n)(x3:n<=140737488355328)(hc:∀ i,i<n->w.cell? (a.add i)=Zw (.int .u8 (xs.getD i 0))) :
  Calls Tryz.prog 211 #[.slice (Zw a) n c] w λe w'=>∃ v',e = .returned v'/\w'.ownsRow w.heap.size 5 1 v' n (xs.map (Value.int .u8))/\Below w.heap.size w w':=by
 have q22:∀ (w:World) (a:Option Addr) (n c n' c':Nat),(binOp .eql 25 (.slice a n c) (.slice none n' c')).run Tryz.prog w = .ok (.bool a.isNone) w:=λw a n c n' c'=>Lib.run_eql_slice_nil w _ _ a n c n' c' Tryz.underlying25;have u22:∀ w,Sem.run Tryz.prog (underlying 25) w = .ok (TypeDesc.slice 5) w:=run_underlying Tryz.underlying25;have z5:∀ w,Sem.run Tryz.prog (Go.sizeOf 5) w = .ok 1 w:=λw=>by simp[Go.sizeOf,typeInfo,hi,Sx]
 have A:Aside (∀ i,i<n->w.cell? (a.add i)=Zw (.int .u8 (xs.getD i 0))):=hc;clear hc
 go_enter Tryz.func211,Tryz.ntmps211
 go_wp2_with (at_builtin;refine wpList_append_own _ rfl _ _ 25 rfl w.heap.size 5 i0 (.int .u8 0) 1 1 Tryz.underlying25 hi tp Sx L7 rfl (by decide) _ _ _ rfl (World.ownsRow_made w #[] 0 (Zx _) (Nat.zero_le _) rfl) a n c (xs.map (Value.int .u8)) rfl ?qc1 ?qc2 ?qc3 ?qc4 ?qc5 ?qc6 ?_)
 case qc1=>simp;omega
 case qc2 =>
  intro j u hj;have hjn:j<n:=by
   have:=(List.getElem?_eq_some_iff.1 hj).1;simp at this;omega
  refine Lib.cell?_alloc_some _ ?_;rw[A.out j hjn];have e:(xs.map (Value.int .u8))[j]? = Zw (Value.int .u8 (xs.getD j 0)):=by simp[List.getD,List.getElem?_eq_getElem (show j<xs.length by omega)]
  rw[e] at hj;exact hj
 case qc3=>intro u hu;obtain⟨x,_,rfl⟩:=List.mem_map.1 hu;rfl
 case qc4=>unfold maxLen;omega
 case qc5=>omega
 case qc6=>simp
 intro v' w1 tH HC HK
 go_wp2
 go_ret
 refine⟨v',rfl,by simpa using tH,?_⟩;exact((Below.refl _ w).alloc (Zx _) _).grown HC (by simp) (by intro k hk;simp[Value.ownBlock] at hk;omega)
set_option maxHeartbeats 1000000 in
theorem UP(n c:Nat)(w:World):Calls Tryz.prog 211 #[.slice none n c] w λe w'=>e = .returned (.slice none 0 0)/\w'=w:=by
 have q22:∀ (w:World) (a:Option Addr) (n c n' c':Nat),(binOp .eql 25 (.slice a n c) (.slice none n' c')).run Tryz.prog w = .ok (.bool a.isNone) w:=λw a n c n' c'=>Lib.run_eql_slice_nil w _ _ a n c n' c' Tryz.underlying25
 go_enter Tryz.func211,Tryz.ntmps211
 go_wp2
 go_ret
 exact⟨rfl,rfl⟩
theorem acw:kE Tryz.prog G 211 CH:=by
 obtain⟨i0,JQ,tp,z7,AG⟩:=Uf;refine Hv (e:=5) (t:=25) ?_ (by kernel_rfl) UP (λa n c xs w h1 h2 h3=>UQ i0 JQ tp z7 AG a n c xs w h1 h2 h3) ?_
 .intro vs w;obtain ⟨c,hc⟩:=Zy.1 (show Tryz.f211.body.isSome=true from by kernel_rfl);have jP : Tryz.f211.name ≠ "runtime.NumGoroutine" := by decide +kernel
  simp[callFunc,Tryz.func211,jP,hc]
 .intro xs bl r h;unfold CH at h;split at h
  .rename_i n;obtain⟨h1,h2⟩:=aL h;cases h2;exact⟨n,rfl,Qa3 h1,rfl,rfl⟩
  .cases h
theorem Kf(a:Option Addr)(w:World):Calls Tryz.prog 258 #[.slice a 0 0,.int AI 0] w λe w'=>e = .returned (.slice a 0 0)/\w'=w:=by
 go_enter Tryz.func258,Tryz.ntmps258
 go_wp2
 go_ret
 exact⟨rfl,rfl⟩
set_option maxHeartbeats 4000000 in
theorem Kg(i0:TypeInfo)(z:Value)(JQ:Tryz.prog.info? 27=Zw i0)(tp:i0.zero=Zw z)(z7:i0.size=1)(AG:i0.bytes=8)(Du:z.cells.size=1)(a:Option Addr)(n:Nat)(w:World)(h0:0<n)(hn:n<=1000000000000):Calls Tryz.prog 258 #[.slice a 0 0,.int AI n] w λe w' =>
   e = .returned (.slice (Zw ⟨w.heap.size,0,none⟩) 0 (grownCap w n 0 27)) /\
   w'=w.drew.alloc (.cells (#[]++Builtin.zeroCells z.cells n++Builtin.zeroCells z.cells (grownCap w n 0 27-n)) 27):=by
 have h1:¬ ((n:Int)<0):=by omega
 have h3:wrap64 ((n:Int))=(n:Int):=by unfold wrap64;omega
 have h4:(n:Int)>0:=by omega
 have hold:(Builtin.firstCells i0.size 0 (.slice a 0 0)).run Tryz.prog w.drew = .ok #[] w.drew:=by
  cases a with
  | none=>exact run_firstCells_none w.drew i0.size 0 0 0
  | some a=>exact run_firstCells_some w.drew i0.size 0 a 0 0 [] (by simp) (λj v hj=>by simp at hj)
 have wE:Builtin.nextslicecap (0+n) 0*i0.bytes<=281474976710656:=growslice_fits (by omega) (by rw[AG];omega);have ZI:∀ ty,(Builtin.append_ #[39,3] ty #[.slice a 0 0,.int AI (n:Int)]).run Tryz.prog w =
   .ok (.slice (Zw ⟨w.heap.size,0,none⟩) n (grownCap w n 0 27)) (w.drew.alloc (.cells (#[]++Builtin.zeroCells z.cells n++Builtin.zeroCells z.cells (grownCap w n 0 27-n)) 27)):=λty=>by
  have h:=Lib.run_append_grow_zeros w 39 3 ty 27 i0 z AI AI Tryz.underlying39 Tryz.underlying3 JQ tp a 0 0 [] hold n h0 (by omega) (by omega) (by omega) (by rw[AG];omega) wE;simpa using h
 clear hold wE
 go_enter Tryz.func258,Tryz.ntmps258
 cases a with
 | none =>
  go_wp2_with (at_builtin;refine Lib.wpList_append_run _ rfl _ _ _ _ rfl _ _ rfl rfl _ _ (ZI _) ?_)
  all_goals (go_ret;exact⟨rfl,rfl⟩)
 | some a =>
  obtain⟨ab,ao,asp⟩:=a
  go_wp2_with (at_builtin;refine Lib.wpList_append_run _ rfl _ _ _ _ rfl _ _ rfl rfl _ _ (ZI _) ?_)
  all_goals (go_ret;exact⟨rfl,rfl⟩)
theorem acz:kE Tryz.prog G 258 Jv:=by
 obtain⟨ei,jm⟩:=Zy.1 (show(G.ty 27).isSome=true from by kernel_rfl);obtain⟨i2,jz⟩:=Zy.1 (show(G.ty 39).isSome=true from by kernel_rfl);have q:(G.ty 27).map (λi=>(i.size,i.bytes))=Zw (1,8)/\(G.ty 39).map (·.kind)=Zw (.slice 27 false):=⟨by kernel_rfl,by kernel_rfl⟩;rw[jm,jz] at q;obtain⟨q1,q2⟩:=q;simp only[Option.map_some,Option.some.injEq,Prod.mk.injEq] at q1 q2;obtain⟨hn,hm⟩:=q1;obtain⟨i0,z,JQ,z7,AG,tp,ZC,Ue,_⟩:=bA (yQ 27 _ jm);have Du:z.cells.size=1:=by
  have:=(gw (w:=(default:World)) (p:=λ_=>0) ZC).len;rw[Ue,hn] at this;simpa using this
 refine Hw (e:=27) (t:=39) (cap:=λw n=>grownCap w n 0 27) (cells:=λw n => #[]++Builtin.zeroCells z.cells n++Builtin.zeroCells z.cells (grownCap w n 0 27-n)) ?_ (by kernel_rfl) jz q2 jm (by rw[hn];decide) Kf (λa n w h1 h2=>Kg i0 z JQ tp (z7.trans hn) (AG.trans hm) Du a n w h1 h2) ?_ ?_
 .intro vs w;obtain ⟨c,hc⟩:=Zy.1 (show Tryz.f258.body.isSome=true from by kernel_rfl);have jP : Tryz.f258.name ≠ "runtime.NumGoroutine" := by decide +kernel
  simp[callFunc,Tryz.func258,jP,hc]
 .intro w n h1 h2;have Bt:=grownCap_ge w n 0 27;refine⟨Bt,grownCap_le_maxLen w n 0 27 (by unfold maxLen;omega),?_⟩;have hz:∀ k,(Builtin.zeroCells z.cells k).size=k*z.cells.size:=λk=>by simp[Builtin.zeroCells]
  rw[Array.size_append,Array.size_append,hz,hz,Du,hn];simp;omega
 .intro xs bl r h;unfold Jv at h;split at h
  .rename_i n;obtain⟨h1,h2⟩:=aL h;simp only[Bool.and_eq_true,Qa2] at h1;cases h2;exact⟨n,rfl,h1.1,h1.2,rfl,rfl⟩
  .cases h
abbrev OG(e:Nat×Nat×List CT×Sp):Prop:=kE Tryz.prog G e.1 e.2.2.2\/E0 Tryz.prog G e.1 e.2.1 e.2.2.2
theorem aay:∀ e∈JJ,OG e :=
 each (.inr w10) <| each (.inr w17) <| each (.inr w21) <| each (.inr w24) <| each (.inr w46) <| each (.inr w89) <| each (.inr w90) <| each (.inr w92) <| each (.inr w94) <| each (.inr w95) <| each (.inr aem) <| each (.inr aep) <| each (.inr aev) <| each (.inr aew) <| each (.inr aeP) <| each (.inr aeT) <| each (.inr aeU) <| each (.inr aeX) <| each (.inr aeZ) <| each (.inr ae7) <| each (.inr ae') <| each (.inr afc) <| each (.inl acs) <| each (.inl acu) <| each (.inr afn) <| each (.inr afo) <| each (.inr afr) <| each (.inr aft) <| each (.inr afJ) <| each (.inr afM) <| each (.inr afN) <| each (.inr afO) <| each (.inr afP) <| each (.inr afQ) <| each (.inr afT) <| each (.inl acw) <| each (.inr af0) <| each (.inr af3) <| each (.inr af4) <| each (.inr af8) <| each (.inr af') <| each (.inr agb) <| each (.inr agc) <| each (.inr age) <| each (.inr agh) <| each (.inr agl) <| each (.inr agr) <| each (.inr ags) <| each (.inl acx) <| each (.inr agu) <| each (.inl acy) <| each (.inl acz) <| each (.inr agy) <| each (.inr agE) <| each (.inr agJ) <| each (.inr agN) <| each (.inr agQ) <| each (.inl acB) <| each (.inr w20) <| each (.inr w29) <| each (.inr w35) <| each (.inr w60) <| each (.inr w91) <| each (.inr w93) <| each (.inr w99) <| each (.inr aen) <| each (.inr aeq) <| each (.inr aer) <| each (.inr aes) <| each (.inr aet) <| each (.inr aeu) <| each (.inr aeI) <| each (.inr aeN) <| each (.inr aeQ) <| each (.inr aeR) <| each (.inr ae3) <| each (.inr afp) <| each (.inr afR) <| each (.inr afU) <| each (.inr afZ) <| each (.inr af_) <| each (.inr agf) <| each (.inr agi) <| each (.inr agt) <| each (.inr agx) <| each (.inr agG) <| each (.inr agR) <| each (.inr w25) <| each (.inr w36) <| each (.inr w40) <| each (.inr w42) <| each (.inr w58) <| each (.inr w59) <| each (.inr w67) <| each (.inr w71) <| each (.inr w80) <| each (.inr w97) <| each (.inr aeo) <| each (.inr aey) <| each (.inr aeJ) <| each (.inr aeW) <| each (.inr aeY) <| each (.inr ae0) <| each (.inr ae2) <| each (.inr ae5) <| each (.inr ae9) <| each (.inr afk) <| each (.inr afu) <| each (.inr afv) <| each (.inr afI) <| each (.inr afK) <| each (.inr afL) <| each (.inr af1) <| each (.inr af2) <| each (.inr af9) <| each (.inr agv) <| each (.inr agA) <| each (.inr agF) <| each (.inr agH) <| each (.inr agI) <| each (.inr agK) <| each (.inr agL) <| each (.inr agM) <| each (.inr agS) <| each (.inr w13) <| each (.inr w22) <| each (.inr w37) <| each (.inr w39) <| each (.inr w41) <| each (.inr w43) <| each (.inr w63) <| each (.inr iw) <| each (.inr w65) <| each (.inr w66) <| each (.inr w68) <| each (.inr w69) <| each (.inr w70) <| each (.inr w73) <| each (.inr aeK) <| each (.inr aeL) <| each (.inr aeM) <| each (.inr aeS) <| each (.inr aeV) <| each (.inr ae4) <| each (.inr ae_) <| each (.inr afd) <| each (.inr afi) <| each (.inr afl) <| each (.inr afx) <| each (.inr afC) <| each (.inr afD) <| each (.inr afG) <| each (.inr afW) <| each (.inr afX) <| each (.inr afY) <| each (.inr af5) <| each (.inr agj) <| each (.inr ago) <| each (.inr agz) <| each (.inr agB) <| each (.inr agC) <| each (.inr agP) <| each (.inr w49) <| each (.inr w53) <| each (.inr w54) <| each (.inr w55) <| each (.inr w56) <| each (.inr w57) <| each (.inr w61) <| each (.inr w62) <| each (.inr w81) <| each (.inr w82) <| each (.inr w83) <| each (.inr w84) <| each (.inr w85) <| each (.inr aex) <| each (.inr aeO) <| each (.inr afa) <| each (.inr afb) <| each (.inr afh) <| each (.inr afs) <| each (.inr afA) <| each (.inr afB) <| each (.inr af7) <| each (.inr aga) <| each (.inr agm) <| each (.inr agn) <| each (.inr agq) <| each (.inr agO) <| each (.inr w23) <| each (.inr w44) <| each (.inr w45) <| each (.inr w50) <| each (.inr w51) <| each (.inr w52) <| each (.inr w75) <| each (.inr w79) <| each (.inr aez) <| each (.inr aeD) <| each (.inr aeE) <| each (.inr afF) <| each (.inr agk) <| each (.inr agD) <| λe h=>nomatch h
theorem adW:∀ e∈Sc,e.2.1<7->OG e :=
 KL (A:=JJ) (B:=JK++Lp++Oq) (by kernel_rfl) aay (by kernel_rfl)
theorem acA:kE Tryz.prog G 259 EL :=
 vq (sn:=u7) (vC (by kernel_rfl) yQ (λf fn h=>BE (f,fn) (kX h)) (f:=259) (k:=7) (ct:=[.sl 1,.int AI,.int AI,.int AI]) (s':=EL) rfl (λg r c s h hr=>adW (g,r,c,s) (kX h) hr) agw) (λxs bl r h=>by
  unfold EL at h;split at h
  .rename_i a b l els;obtain⟨ay,h2⟩:=aL h;refine⟨(b-a).toNat+1,?_⟩;show aB (_&&_) _=_;rw[ae (by rw[ay,Bool.true_and,Qa2];omega)];exact h2
  .cases h)
theorem aeb:∀ e∈JK,OG e :=
 each (.inr w12) <| each (.inr w16) <| each (.inr w38) <| each (.inr w47) <| each (.inr aeG) <| each (.inr afy) <| each (.inr afS) <| each (.inl acA) <| λe h=>nomatch h
theorem Qp:∀ e∈JJ++JK,OG e:=λe h=>(List.mem_append.1 h).elim (aay e) (aeb e)
theorem Z5:∀ e∈Sc,e.2.1<8->OG e :=
 KL (A:=JJ++JK) (B:=Lp++Oq) (by kernel_rfl) Qp (by kernel_rfl)
theorem g34:kE Tryz.prog G 34 Le :=
 vq (sn:=Ob) (vC (by kernel_rfl) yQ (λf fn h=>BE (f,fn) (kX h)) (f:=34) (k:=8) (ct:=[.other,.eV]) (s':=Le) rfl (λg r c s h hr=>Z5 (g,r,c,s) (kX h) hr) w34) (λxs bl r h=>by
  unfold Le at h;split at h
  .rename_i ks bs b;obtain⟨ay,h2⟩:=aL h;refine⟨((b.length:Int)).toNat+1,?_⟩;show aB (_&&_) _=_;rw[ae (by rw[ay,Bool.true_and,Qa2];omega)];exact h2
  .cases h)
theorem acq:kE Tryz.prog G 100 Ms :=
 vq (sn:=EI) (vC (by kernel_rfl) yQ (λf fn h=>BE (f,fn) (kX h)) (f:=100) (k:=8) (ct:=[.other]) (s':=Ms) rfl (λg r c s h hr=>Z5 (g,r,c,s) (kX h) hr) aek) (λxs bl r h=>by
  unfold Ms at h;split at h
  .rename_i ks bs;obtain⟨ay,h2⟩:=aL h;refine⟨((Kerb.mi (Kerb.kn ks bs):Int)).toNat+1,?_⟩;show aB (_&&_) _=_;rw[ae (by rw[ay,Bool.true_and,Qa2];omega)];exact h2
  .cases h)
theorem aec:∀ e∈Lp,OG e :=
 each (.inr w14) <| each (.inl g34) <| each (.inl acq) <| each (.inr aeB) <| each (.inr ae1) <| each (.inr ae8) <| each (.inr afj) <| each (.inr afm) <| each (.inr afw) <| each (.inr afz) <| each (.inr afH) <| each (.inr afV) <| each (.inr af6) <| each (.inr agd) <| each (.inr agp) <| each (.inr w9) <| each (.inr w28) <| each (.inr w30) <| each (.inr w32) <| each (.inr w74) <| each (.inr aeA) <| each (.inr aeC) <| each (.inr ae6) <| each (.inr afe) <| each (.inr aff) <| each (.inr afg) <| each (.inr afq) <| each (.inr afE) <| each (.inr w72) <| each (.inr w76) <| each (.inr w77) <| each (.inr w78) <| each (.inr aeF) <| each (.inr aeH) <| each (.inr w15) <| each (.inr w48) <| λe h=>nomatch h
theorem aad:∀ e∈JJ++JK++Lp,OG e:=λe h=>(List.mem_append.1 h).elim (Qp e) (aec e)
theorem adX:∀ e∈Sc,e.2.1<12->OG e :=
 KL (A:=JJ++JK++Lp) (B:=Oq) (by kernel_rfl) aad (by kernel_rfl)
theorem acr:kE Tryz.prog G 102 EK :=
 vq (sn:=EJ) (vC (by kernel_rfl) yQ (λf fn h=>BE (f,fn) (kX h)) (f:=102) (k:=12) (ct:=[.ptr,.eV]) (s':=EK) rfl (λg r c s h hr=>adX (g,r,c,s) (kX h) hr) ael) (λxs bl r h=>by
  unfold EK at h;split at h
  .rename_i b ks bs;obtain⟨ay,h2⟩:=aL h;refine⟨((b.length:Int)).toNat+1,?_⟩;show aB (_&&_) _=_;rw[ae (by rw[ay,Bool.true_and,Qa2];omega)];exact h2
  .cases h)
theorem aed:∀ e∈Oq,OG e :=
 each (.inr w11) <| each (.inl acr) <| each (.inr w31) <| each (.inr w33) <| each (.inr w19) <| each (.inr w27) <| each (.inr w8) <| each (.inr w6) <| λe h=>nomatch h
theorem ad1:∀ e∈JJ++JK++Lp++Oq,OG e:=λe h=>(List.mem_append.1 h).elim (aad e) (aed e)
theorem UC:∀ e∈Sc,OG e:=ad1
theorem xd:DP Tryz.prog G where
 mixed:=by kernel_rfl
 ty:=yQ
 each:=λf k ct s h=>UC (f,k,ct,s) (kX h)
 inl:=λf fn h=>BE (f,fn) (kX h)
theorem own:ownKnob Tryz.prog.godebug=none:=by kernel_rfl
theorem laidOut:laidOutB Tryz.prog=true:=by kernel_rfl
end Go.Proofs.YteafbgcimcpfiaaGreat
