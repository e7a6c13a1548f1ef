/- The table is right, and the laws. -/
import Derived.Test.YtpelamlfpffacaaGreatWalk1
import Derived.Test.YtpelamlfpffacaaGreatWalk2
import Derived.Test.YtpelamlfpffacaaGreatWalk3
import Derived.Test.YtpelamlfpffacaaGreatWalk4
import Derived.Test.YtpelamlfpffacaaGreatWalk5
import Derived.Test.YtpelamlfpffacaaGreatRows
set_option linter.all false
open Go.IntKind renaming i64->AI
open Option renaming isSome_iff_exists->Zz,some->Zx
open Nat renaming le_refl->Zy
namespace Go.Proofs.YtpelamlfpffacaaGreat
open Go Go.Abs Go.Proofs
open Go.ChangeShapes Go.WideShapes Go.ChangeAt Go.RowKit Go.Lib
set_option maxRecDepth 100000
variable {a:Nat×Nat×List CT×Sp}{l:List (Nat×Nat×List CT×Sp)}
theorem ac1:(List.range 520).map (λt=>match (tbl[t]?).join with | some _=>fq Tryz.prog t | none=>none)=tbl:=by kernel_rfl
theorem Bu:∀ t i,G.ty t=Zx i->fq Tryz.prog t=Zx i:=by
 intro t i h;have h1:(tbl[t]?).join=Zx i:=h;have h2:tbl[t]? = Zx (Zx i):=by
  cases hx:tbl[t]? with
  | none=>rw[hx] at h1;cases h1
  | some x=>rw[hx] at h1;rw[show x=Zx i from h1]
 have h3:((List.range 520).map (λt=>match (tbl[t]?).join with | some _=>fq Tryz.prog t | none=>none))[t]? = Zx (Zx i):=by rw[ac1];exact h2
 rw[List.getElem?_map] at h3;cases hr:(List.range 520)[t]? with
 | none=>rw[hr] at h3;cases h3
 | some y =>
  rw[hr] at h3;have hy:y=t:=by
   have:=(List.getElem?_eq_some_iff.1 hr).2;simpa using this.symm
  subst hy;simp only[Option.map_some,h1,Option.some.injEq] at h3;exact h3
theorem aer(a:Option Addr)(w:World):Calls Tryz.prog 410 #[.slice a 0 0,.int AI 0] w λe w'=>e = .returned (.slice a 0 0)/\w'=w:=by
 go_enter Tryz.func410,Tryz.ntmps410
 go_wp2
 go_ret
 exact⟨rfl,rfl⟩
set_option maxHeartbeats 4000000 in
theorem aes(i0:TypeInfo)(z:Value)(Ll:Tryz.prog.info? 5=Zx i0)(tG:i0.zero=Zx z)(Ba:i0.size=1)(BO:i0.bytes=1)(a:Option Addr)(n:Nat)(w:World)(h0:0<n)(hn:n<=140737488355328):Calls Tryz.prog 410 #[.slice a 0 0,.int AI n] w λe w' =>
   e = .returned (.slice (Zx ⟨w.heap.size,0,none⟩) 0 (grownCap w n 0 5)) /\
   w'=w.drew.alloc (.cells (#[]++Builtin.zeroCells z.cells n++Builtin.zeroCells z.cells (grownCap w n 0 5-n)) 5):=by
 have h1:¬ ((n:Int)<0):=by omega
 have h3:wrap64 ((n:Int))=(n:Int):=by unfold wrap64;omega
 have h4:(n:Int)>0:=by omega
 have hold:(Builtin.firstCells i0.size 0 (.slice a 0 0)).run Tryz.prog w.drew = .ok #[] w.drew:=by
  cases a with
  | none=>exact run_firstCells_none w.drew i0.size 0 0 0
  | some a=>exact run_firstCells_some w.drew i0.size 0 a 0 0 [] (by simp) (λj v hj=>by simp at hj)
 have xK:Builtin.nextslicecap (0+n) 0*i0.bytes<=281474976710656:=growslice_fits (by omega) (by rw[BO];omega);have hrz:∀ ty,(Builtin.append_ #[62,3] ty #[.slice a 0 0,.int AI (n:Int)]).run Tryz.prog w =
   .ok (.slice (Zx ⟨w.heap.size,0,none⟩) n (grownCap w n 0 5)) (w.drew.alloc (.cells (#[]++Builtin.zeroCells z.cells n++Builtin.zeroCells z.cells (grownCap w n 0 5-n)) 5)):=λty=>by
  have h:=Lib.run_append_grow_zeros w 62 3 ty 5 i0 z AI AI Tryz.underlying62 Tryz.underlying3 Ll tG a 0 0 [] hold n h0 (by omega) (by omega) (by omega) (by rw[BO];omega) xK;simpa using h
 clear hold xK
 go_enter Tryz.func410,Tryz.ntmps410
 cases a with
 | none =>
  go_wp2_with (at_builtin;refine Lib.wpList_append_run _ rfl _ _ _ _ rfl _ _ rfl rfl _ _ (hrz _) ?_)
  all_goals (go_ret;exact⟨rfl,rfl⟩)
 | some a =>
  obtain⟨ab,ao,asp⟩:=a
  go_wp2_with (at_builtin;refine Lib.wpList_append_run _ rfl _ _ _ _ rfl _ _ rfl rfl _ _ (hrz _) ?_)
  all_goals (go_ret;exact⟨rfl,rfl⟩)
theorem Yr:∃ i0,Tryz.prog.info? 5=Zx i0/\i0.zero=Zx (.int .u8 0)/\i0.size=1/\i0.bytes=1:=by
 obtain⟨info,z,h1,h2,h3,h4,h5,_⟩:=bq (Bu 5 _ (show G.ty 5=Zx ⟨1,1,.u8,[.u8 0],[.u8],[.u8]⟩ from by kernel_rfl));obtain⟨Vi,ei,wY,yn,Pq,NM⟩:=jA (show Ey Tryz.prog 5=true from by kernel_rfl);exact⟨ei,wY,NM,yn,Pq⟩
theorem ajo:kV Tryz.prog G 410 KZ:=by
 obtain⟨i0,Ll,tG,Ba,BO⟩:=Yr;refine LU (e:=5) (t:=62) (cap:=λw n=>grownCap w n 0 5) (cells:=λw n => #[]++Builtin.zeroCells (Value.int .u8 0).cells n++Builtin.zeroCells (Value.int .u8 0).cells (grownCap w n 0 5-n)) ?_ (by kernel_rfl) (i:=⟨1,24,.slice 5 true,[.bJ],[.c4],[]⟩) (by kernel_rfl) rfl aer (λa n w h1 h2=>aes i0 _ Ll tG Ba BO a n w h1 h2) ?_ ?_
 .intro vs w;obtain ⟨c,hc⟩:=Zz.1 (show Tryz.f410.body.isSome=true from by kernel_rfl);have j6 : Tryz.f410.name ≠ "runtime.NumGoroutine" := by decide +kernel
  simp[callFunc,Tryz.func410,j6,hc]
 .intro w n h1 h2;have CJ:=grownCap_ge w n 0 5;refine⟨CJ,grownCap_le_maxLen w n 0 5 (by unfold maxLen;omega),?_⟩;simp[Builtin.zeroCells,Value.cells];omega
 .intro xs bl r h;unfold KZ at h;split at h
  .rename_i n;obtain⟨h1,h2⟩:=aC h;simp only[Bool.and_eq_true,Qa2] at h1;cases h2;exact⟨n,rfl,h1.1,h1.2,rfl,rfl⟩
  .cases h
theorem ajp:kV Tryz.prog G 411 Ut :=
 Jf Tryz.func411 (by decide +kernel) (by kernel_rfl) (by kernel_rfl) (by kernel_rfl) (rt:=3) (by kernel_rfl) (λxs bl r h=>by
  unfold Ut at h;split at h
  .cases h;exact⟨_,_,rfl,rfl,rfl⟩
  .cases h)
theorem ajq:kV Tryz.prog G 437 UB :=
 yW Tryz.func437 (by decide +kernel) (by kernel_rfl) (by kernel_rfl) (by kernel_rfl) (rt:=3) (by kernel_rfl) (λxs bl r h=>by
  unfold UB at h;split at h
  .cases h;exact⟨_,_,rfl,rfl,rfl⟩
  .cases h)
theorem pJ {f : Nat} {fn : Func} {r : List (Nat × Func)} (h : Tryz.prog.funcs[f]? = Option.some fn) (t : ∀ e ∈ r, Tryz.prog.funcs[e.1]? = Option.some e.2 ∧ e.2.name ≠ "runtime.NumGoroutine") (n : fn.name ≠ "runtime.NumGoroutine" := by decide +kernel) : ∀ e ∈ (f, fn) :: r, Tryz.prog.funcs[e.1]? = Option.some e.2 ∧ e.2.name ≠ "runtime.NumGoroutine" := each ⟨h, n⟩ t
theorem Ha : ∀ e ∈ abP, Tryz.prog.funcs[e.1]? = Zx e.2 ∧ e.2.name ≠ "runtime.NumGoroutine" := by
 unfold abP;exact pJ Tryz.func28<|pJ Tryz.func29<|pJ Tryz.func33<|pJ Tryz.func34<|pJ Tryz.func37<|pJ Tryz.func38<|pJ Tryz.func54<|pJ Tryz.func69<|pJ Tryz.func86<|pJ Tryz.func137<|pJ Tryz.func202<|pJ Tryz.func237<|pJ Tryz.func398<|pJ Tryz.func399<|pJ Tryz.func35<|pJ Tryz.func67<|pJ Tryz.func83<|pJ Tryz.func110<|pJ Tryz.func141<|pJ Tryz.func172<|pJ Tryz.func177<|pJ Tryz.func335<|pJ Tryz.func336<|pJ Tryz.func109<|pJ Tryz.func112<|pJ Tryz.func128<|pJ Tryz.func149<|pJ Tryz.func62<|pJ Tryz.func148<|pJ Tryz.func180<|pJ Tryz.func343<|pJ Tryz.func135<|pJ Tryz.func30<|pJ Tryz.func84<|pJ Tryz.func115<|pJ Tryz.func139<|pJ Tryz.func88<|pJ Tryz.func89<|pJ Tryz.func90<|pJ Tryz.func91<|pJ Tryz.func92<|pJ Tryz.func93<|pJ Tryz.func134<|pJ Tryz.func136<|pJ Tryz.func87<|pJ Tryz.func246<|pJ Tryz.func53<|pJ Tryz.func178<|pJ Tryz.func113<|λe h=>by cases h
theorem nh{α:Type}{k:Nat}{x:α}:∀ {l:List (Nat×α)},look k l=Zx x->(k,x)∈l
 | [],h=>by cases h
 | (j,y)::r,h=>by
  simp only[look] at h;cases hb:Nat.beq j k with
  | false=>rw[hb] at h;exact List.mem_cons_of_mem _ (nh h)
  | true=>rw[hb] at h;cases h;rw[Nat.eq_of_beq_eq_true hb];exact List.mem_cons_self ..
theorem Av{α:Type}{k m:Nat}{x:α}{r:List α}:∀ {l:List (Nat×Nat×List α)},JR k m l=x::r->(k,m,x::r)∈l
 | [],h=>by cases h
 | (j,i,y)::q,h=>by
  simp only[JR] at h;cases hb:Nat.beq j k with
  | false=>rw[hb] at h;exact List.mem_cons_of_mem _ (Av h)
  | true =>
   rw[hb] at h;simp only[Qa6] at h;cases hc:Nat.beq i m with
   | false=>rw[hc] at h;exact List.mem_cons_of_mem _ (Av h)
   | true=>rw[hc] at h;simp only[Qa6] at h;rw[Nat.eq_of_beq_eq_true hb,Nat.eq_of_beq_eq_true hc,h];exact List.mem_cons_self ..
theorem VQ:(YB.all λe => !(Nat.beq e.2.1 9999998))=true:=by kernel_rfl
theorem NB:∀ f x l,G.keep f 9999998=x::l->Vt Tryz.prog f:=by
 intro f x l h;have h1:=List.all_eq_true.1 VQ _ (Av h);simp at h1
set_option maxHeartbeats 2000000 in
theorem aaD(i0:TypeInfo)(hi:Tryz.prog.info? 5=Zx i0)(tG:i0.zero=Zx (.int .u8 0))(Vo:i0.size=1)(NW:i0.bytes=1)(a:Addr)(n c:Nat)(xs:List Int)(w:World)(hx:xs.length=n)(y0:n<=140737488355328)(hc:∀ i,i<n->w.cell? (a.add i)=Zx (.int .u8 (xs.getD i 0))) :
  Calls Tryz.prog 72 #[.slice (Zx a) n c] w λe w'=>∃ v',e = .returned v'/\w'.ownsRow w.heap.size 5 1 v' n (xs.map (Value.int .u8))/\Below w.heap.size w w':=by
 have q22:∀ (w:World) (a:Option Addr) (n c n' c':Nat),(binOp .eql 62 (.slice a n c) (.slice none n' c')).run Tryz.prog w = .ok (.bool a.isNone) w:=λw a n c n' c'=>Lib.run_eql_slice_nil w _ _ a n c n' c' Tryz.underlying62;have u22:∀ w,Sem.run Tryz.prog (underlying 62) w = .ok (TypeDesc.slice 5) w:=run_underlying Tryz.underlying62;have z5:∀ w,Sem.run Tryz.prog (Go.sizeOf 5) w = .ok 1 w:=λw=>by simp[Go.sizeOf,typeInfo,hi,Vo]
 have A:Aside (∀ i,i<n->w.cell? (a.add i)=Zx (.int .u8 (xs.getD i 0))):=hc;clear hc
 go_enter Tryz.func72,Tryz.ntmps72
 go_wp2_with (at_builtin;refine wpList_append_own _ rfl _ _ 62 rfl w.heap.size 5 i0 (.int .u8 0) 1 1 Tryz.underlying62 hi tG Vo NW rfl (by decide) _ _ _ rfl (World.ownsRow_made w #[] 0 (Zy _) (Nat.zero_le _) rfl) a n c (xs.map (Value.int .u8)) rfl ?qc1 ?qc2 ?qc3 ?qc4 ?qc5 ?qc6 ?_)
 case qc1=>simp;omega
 case qc2 =>
  intro j u hj;have hjn:j<n:=by
   have:=(List.getElem?_eq_some_iff.1 hj).1;simp at this;omega
  refine Lib.cell?_alloc_some _ ?_;rw[A.out j hjn];have e:(xs.map (Value.int .u8))[j]? = Zx (Value.int .u8 (xs.getD j 0)):=by simp[List.getD,List.getElem?_eq_getElem (show j<xs.length by omega)]
  rw[e] at hj;exact hj
 case qc3=>intro u hu;obtain⟨x,_,rfl⟩:=List.mem_map.1 hu;rfl
 case qc4=>unfold maxLen;omega
 case qc5=>omega
 case qc6=>simp
 intro v' w1 uF Jm Js
 go_wp2
 go_ret
 refine⟨v',rfl,by simpa using uF,?_⟩;exact((Below.refl _ w).alloc (Zy _) _).grown Jm (by simp) (by intro k hk;simp[Value.ownBlock] at hk;omega)
set_option maxHeartbeats 1000000 in
theorem aaC(n c:Nat)(w:World):Calls Tryz.prog 72 #[.slice none n c] w λe w'=>e = .returned (.slice none 0 0)/\w'=w:=by
 have q22:∀ (w:World) (a:Option Addr) (n c n' c':Nat),(binOp .eql 62 (.slice a n c) (.slice none n' c')).run Tryz.prog w = .ok (.bool a.isNone) w:=λw a n c n' c'=>Lib.run_eql_slice_nil w _ _ a n c n' c' Tryz.underlying62
 go_enter Tryz.func72,Tryz.ntmps72
 go_wp2
 go_ret
 exact⟨rfl,rfl⟩
theorem g72:kV Tryz.prog G 72 MY:=by
 obtain⟨i0,Ll,tG,Ba,BO⟩:=Yr;refine Jd (e:=5) (t:=62) ?_ (by kernel_rfl) aaC (λa n c xs w h1 h2 h3=>aaD i0 Ll tG Ba BO a n c xs w h1 h2 h3) ?_
 .intro vs w;obtain ⟨c,hc⟩:=Zz.1 (show Tryz.f72.body.isSome=true from by kernel_rfl);have j6 : Tryz.f72.name ≠ "runtime.NumGoroutine" := by decide +kernel
  simp[callFunc,Tryz.func72,j6,hc]
 .intro xs bl r h;unfold MY at h;split at h
  .rename_i n;obtain⟨h1,h2⟩:=aC h;cases h2;exact⟨n,rfl,Qa3 h1,rfl,rfl⟩
  .cases h
theorem LV(a:Option Addr)(w:World):Calls Tryz.prog 117 #[.slice a 0 0,.int AI 0] w λe w'=>e = .returned (.slice a 0 0)/\w'=w:=by
 go_enter Tryz.func117,Tryz.ntmps117
 go_wp2
 go_ret
 exact⟨rfl,rfl⟩
set_option maxHeartbeats 4000000 in
theorem LW(i0:TypeInfo)(z:Value)(Ll:Tryz.prog.info? 55=Zx i0)(tG:i0.zero=Zx z)(Ba:i0.size=1)(BO:i0.bytes=8)(CP:z.cells.size=1)(a:Option Addr)(n:Nat)(w:World)(h0:0<n)(hn:n<=1000000000000):Calls Tryz.prog 117 #[.slice a 0 0,.int AI n] w λe w' =>
   e = .returned (.slice (Zx ⟨w.heap.size,0,none⟩) 0 (grownCap w n 0 55)) /\
   w'=w.drew.alloc (.cells (#[]++Builtin.zeroCells z.cells n++Builtin.zeroCells z.cells (grownCap w n 0 55-n)) 55):=by
 have h1:¬ ((n:Int)<0):=by omega
 have h3:wrap64 ((n:Int))=(n:Int):=by unfold wrap64;omega
 have h4:(n:Int)>0:=by omega
 have hold:(Builtin.firstCells i0.size 0 (.slice a 0 0)).run Tryz.prog w.drew = .ok #[] w.drew:=by
  cases a with
  | none=>exact run_firstCells_none w.drew i0.size 0 0 0
  | some a=>exact run_firstCells_some w.drew i0.size 0 a 0 0 [] (by simp) (λj v hj=>by simp at hj)
 have xK:Builtin.nextslicecap (0+n) 0*i0.bytes<=281474976710656:=growslice_fits (by omega) (by rw[BO];omega);have hrz:∀ ty,(Builtin.append_ #[36,3] ty #[.slice a 0 0,.int AI (n:Int)]).run Tryz.prog w =
   .ok (.slice (Zx ⟨w.heap.size,0,none⟩) n (grownCap w n 0 55)) (w.drew.alloc (.cells (#[]++Builtin.zeroCells z.cells n++Builtin.zeroCells z.cells (grownCap w n 0 55-n)) 55)):=λty=>by
  have h:=Lib.run_append_grow_zeros w 36 3 ty 55 i0 z AI AI Tryz.underlying36 Tryz.underlying3 Ll tG a 0 0 [] hold n h0 (by omega) (by omega) (by omega) (by rw[BO];omega) xK;simpa using h
 clear hold xK
 go_enter Tryz.func117,Tryz.ntmps117
 cases a with
 | none =>
  go_wp2_with (at_builtin;refine Lib.wpList_append_run _ rfl _ _ _ _ rfl _ _ rfl rfl _ _ (hrz _) ?_)
  all_goals (go_ret;exact⟨rfl,rfl⟩)
 | some a =>
  obtain⟨ab,ao,asp⟩:=a
  go_wp2_with (at_builtin;refine Lib.wpList_append_run _ rfl _ _ _ _ rfl _ _ rfl rfl _ _ (hrz _) ?_)
  all_goals (go_ret;exact⟨rfl,rfl⟩)
theorem aji:kV Tryz.prog G 117 Ky:=by
 obtain⟨ei,iR⟩:=Zz.1 (show(G.ty 55).isSome=true from by kernel_rfl);obtain⟨i2,mM⟩:=Zz.1 (show(G.ty 36).isSome=true from by kernel_rfl);have q:(G.ty 55).map (λi=>(i.size,i.bytes))=Zx (1,8)/\(G.ty 36).map (·.kind)=Zx (.slice 55 false):=⟨by kernel_rfl,by kernel_rfl⟩;rw[iR,mM] at q;obtain⟨q1,q2⟩:=q;simp only[Option.map_some,Option.some.injEq,Prod.mk.injEq] at q1 q2;obtain⟨hn,hm⟩:=q1;obtain⟨i0,z,Ll,Ba,BO,tG,hof,Vr,_⟩:=bq (Bu 55 _ iR);have CP:z.cells.size=1:=by
  have:=(f_ (w:=(default:World)) (p:=λ_=>0) hof).len;rw[Vr,hn] at this;simpa using this
 refine Je (e:=55) (t:=36) (cap:=λw n=>grownCap w n 0 55) (cells:=λw n => #[]++Builtin.zeroCells z.cells n++Builtin.zeroCells z.cells (grownCap w n 0 55-n)) ?_ (by kernel_rfl) mM q2 iR (by rw[hn];decide) LV (λa n w h1 h2=>LW i0 z Ll tG (Ba.trans hn) (BO.trans hm) CP a n w h1 h2) ?_ ?_
 .intro vs w;obtain ⟨c,hc⟩:=Zz.1 (show Tryz.f117.body.isSome=true from by kernel_rfl);have j6 : Tryz.f117.name ≠ "runtime.NumGoroutine" := by decide +kernel
  simp[callFunc,Tryz.func117,j6,hc]
 .intro w n h1 h2;have CJ:=grownCap_ge w n 0 55;refine⟨CJ,grownCap_le_maxLen w n 0 55 (by unfold maxLen;omega),?_⟩;have hz:∀ k,(Builtin.zeroCells z.cells k).size=k*z.cells.size:=λk=>by simp[Builtin.zeroCells]
  rw[Array.size_append,Array.size_append,hz,hz,CP,hn];simp;omega
 .intro xs bl r h;unfold Ky at h;split at h
  .rename_i n;obtain⟨h1,h2⟩:=aC h;simp only[Bool.and_eq_true,Qa2] at h1;cases h2;exact⟨n,rfl,h1.1,h1.2,rfl,rfl⟩
  .cases h
set_option maxHeartbeats 2000000 in
theorem IU(i0:TypeInfo)(hi:Tryz.prog.info? 55=Zx i0)(z:Value)(tG:i0.zero=Zx z)(Vo:i0.size=1)(NW:i0.bytes=8)(CP:z.cells.size=1)(a:Addr)(n c:Nat)(xs:List Value)(w:World)(hx:xs.length=n*1)(y0:n<=1000000)(hc:∀ j u,xs[j]? = Zx u->w.cell? (a.add j)=Zx u)(G7:∀ u∈xs,u.oneCell'=true) :
  Calls Tryz.prog 173 #[.slice (Zx a) n c] w λe w'=>∃ v',e = .returned v'/\w'.ownsRow w.heap.size 55 1 v' n xs/\Below w.heap.size w w':=by
 have q22:∀ (w:World) (a:Option Addr) (n c n' c':Nat),(binOp .eql 36 (.slice a n c) (.slice none n' c')).run Tryz.prog w = .ok (.bool a.isNone) w:=λw a n c n' c'=>Lib.run_eql_slice_nil w _ _ a n c n' c' Tryz.underlying36;have u22:∀ w,Sem.run Tryz.prog (underlying 36) w = .ok (TypeDesc.slice 55) w:=run_underlying Tryz.underlying36;have z5:∀ w,Sem.run Tryz.prog (Go.sizeOf 55) w = .ok 1 w:=λw=>by simp[Go.sizeOf,typeInfo,hi,Vo]
 have A:Aside (∀ j u,xs[j]? = Zx u->w.cell? (a.add j)=Zx u):=hc;clear hc
 go_enter Tryz.func173,Tryz.ntmps173
 go_wp2_with (at_builtin;refine wpList_append_own _ rfl _ _ 36 rfl w.heap.size 55 i0 z 1 8 Tryz.underlying36 hi tG Vo NW CP (by decide) _ _ _ rfl (World.ownsRow_made w #[] 0 (Zy _) (Nat.zero_le _) rfl) a n c xs rfl ?qc1 ?qc2 ?qc3 ?qc4 ?qc5 ?qc6 ?_)
 case qc1=>exact hx
 case qc2 =>
  intro j u hj;exact Lib.cell?_alloc_some _ (A.out j u hj)
 case qc3=>exact G7
 case qc4=>unfold maxLen;omega
 case qc5=>omega
 case qc6=>simp
 intro v' w1 uF Jm Js
 go_wp2
 go_ret
 refine⟨v',rfl,by simpa using uF,?_⟩;exact((Below.refl _ w).alloc (Zy _) _).grown Jm (by simp) (by intro k hk;simp[Value.ownBlock] at hk;omega)
set_option maxHeartbeats 1000000 in
theorem IP(n c:Nat)(w:World):Calls Tryz.prog 173 #[.slice none n c] w λe w'=>e = .returned (.slice none 0 0)/\w'=w:=by
 have q22:∀ (w:World) (a:Option Addr) (n c n' c':Nat),(binOp .eql 36 (.slice a n c) (.slice none n' c')).run Tryz.prog w = .ok (.bool a.isNone) w:=λw a n c n' c'=>Lib.run_eql_slice_nil w _ _ a n c n' c' Tryz.underlying36
 go_enter Tryz.func173,Tryz.ntmps173
 go_wp2
 go_ret
 exact⟨rfl,rfl⟩
theorem ajl:kV Tryz.prog G 173 T5:=by
 obtain⟨ei,iR⟩:=Zz.1 (show(G.ty 55).isSome=true from by kernel_rfl);obtain⟨i2,mM⟩:=Zz.1 (show(G.ty 36).isSome=true from by kernel_rfl);have q:(G.ty 55).map (λi=>(i.size,i.bytes))=Zx (1,8)/\(G.ty 36).map (·.kind)=Zx (.slice 55 false):=⟨by kernel_rfl,by kernel_rfl⟩;rw[iR,mM] at q;obtain⟨q1,q2⟩:=q;simp only[Option.map_some,Option.some.injEq,Prod.mk.injEq] at q1 q2;obtain⟨hn,hm⟩:=q1;obtain⟨i0,z,Ll,Ba,BO,tG,hof,Vr,_⟩:=bq (Bu 55 _ iR);have CP:z.cells.size=1:=by
  have:=(f_ (w:=(default:World)) (p:=λ_=>0) hof).len;rw[Vr,hn] at this;simpa using this
 refine yV (e:=55) (t:=36) (size:=1) ?_ (by kernel_rfl) mM q2 iR hn (by decide) IP (λa n c xs w h1 h2 h3 h4=>IU i0 Ll z tG (Ba.trans hn) (BO.trans hm) CP a n c xs w h1 h2 h3 h4) ?_
 .intro vs w;obtain ⟨c,hc⟩:=Zz.1 (show Tryz.f173.body.isSome=true from by kernel_rfl);have j6 : Tryz.f173.name ≠ "runtime.NumGoroutine" := by decide +kernel
  simp[callFunc,Tryz.func173,j6,hc]
 .intro xs bl r h;unfold T5 at h;split at h
  .rename_i els;obtain⟨h1,h2⟩:=aC h;cases h2;exact⟨els,rfl,by
    simp only[Bool.and_eq_true,Qa2] at h1;first | exact h1 | exact h1.2,rfl,rfl⟩
  .cases h
set_option maxHeartbeats 2000000 in
theorem IV(i0:TypeInfo)(hi:Tryz.prog.info? 62=Zx i0)(z:Value)(tG:i0.zero=Zx z)(Vo:i0.size=1)(NW:i0.bytes=24)(CP:z.cells.size=1)(a:Addr)(n c:Nat)(xs:List Value)(w:World)(hx:xs.length=n*1)(y0:n<=1000000)(hc:∀ j u,xs[j]? = Zx u->w.cell? (a.add j)=Zx u)(G7:∀ u∈xs,u.oneCell'=true) :
  Calls Tryz.prog 174 #[.slice (Zx a) n c] w λe w'=>∃ v',e = .returned v'/\w'.ownsRow w.heap.size 62 1 v' n xs/\Below w.heap.size w w':=by
 have q22:∀ (w:World) (a:Option Addr) (n c n' c':Nat),(binOp .eql 37 (.slice a n c) (.slice none n' c')).run Tryz.prog w = .ok (.bool a.isNone) w:=λw a n c n' c'=>Lib.run_eql_slice_nil w _ _ a n c n' c' Tryz.underlying37;have u22:∀ w,Sem.run Tryz.prog (underlying 37) w = .ok (TypeDesc.slice 62) w:=run_underlying Tryz.underlying37;have z5:∀ w,Sem.run Tryz.prog (Go.sizeOf 62) w = .ok 1 w:=λw=>by simp[Go.sizeOf,typeInfo,hi,Vo]
 have A:Aside (∀ j u,xs[j]? = Zx u->w.cell? (a.add j)=Zx u):=hc;clear hc
 go_enter Tryz.func174,Tryz.ntmps174
 go_wp2_with (at_builtin;refine wpList_append_own _ rfl _ _ 37 rfl w.heap.size 62 i0 z 1 24 Tryz.underlying37 hi tG Vo NW CP (by decide) _ _ _ rfl (World.ownsRow_made w #[] 0 (Zy _) (Nat.zero_le _) rfl) a n c xs rfl ?qc1 ?qc2 ?qc3 ?qc4 ?qc5 ?qc6 ?_)
 case qc1=>exact hx
 case qc2 =>
  intro j u hj;exact Lib.cell?_alloc_some _ (A.out j u hj)
 case qc3=>exact G7
 case qc4=>unfold maxLen;omega
 case qc5=>omega
 case qc6=>simp
 intro v' w1 uF Jm Js
 go_wp2
 go_ret
 refine⟨v',rfl,by simpa using uF,?_⟩;exact((Below.refl _ w).alloc (Zy _) _).grown Jm (by simp) (by intro k hk;simp[Value.ownBlock] at hk;omega)
set_option maxHeartbeats 1000000 in
theorem IQ(n c:Nat)(w:World):Calls Tryz.prog 174 #[.slice none n c] w λe w'=>e = .returned (.slice none 0 0)/\w'=w:=by
 have q22:∀ (w:World) (a:Option Addr) (n c n' c':Nat),(binOp .eql 37 (.slice a n c) (.slice none n' c')).run Tryz.prog w = .ok (.bool a.isNone) w:=λw a n c n' c'=>Lib.run_eql_slice_nil w _ _ a n c n' c' Tryz.underlying37
 go_enter Tryz.func174,Tryz.ntmps174
 go_wp2
 go_ret
 exact⟨rfl,rfl⟩
theorem ajm:kV Tryz.prog G 174 T6:=by
 obtain⟨ei,iR⟩:=Zz.1 (show(G.ty 62).isSome=true from by kernel_rfl);obtain⟨i2,mM⟩:=Zz.1 (show(G.ty 37).isSome=true from by kernel_rfl);have q:(G.ty 62).map (λi=>(i.size,i.bytes))=Zx (1,24)/\(G.ty 37).map (·.kind)=Zx (.slice 62 false):=⟨by kernel_rfl,by kernel_rfl⟩;rw[iR,mM] at q;obtain⟨q1,q2⟩:=q;simp only[Option.map_some,Option.some.injEq,Prod.mk.injEq] at q1 q2;obtain⟨hn,hm⟩:=q1;obtain⟨i0,z,Ll,Ba,BO,tG,hof,Vr,_⟩:=bq (Bu 62 _ iR);have CP:z.cells.size=1:=by
  have:=(f_ (w:=(default:World)) (p:=λ_=>0) hof).len;rw[Vr,hn] at this;simpa using this
 refine yV (e:=62) (t:=37) (size:=1) ?_ (by kernel_rfl) mM q2 iR hn (by decide) IQ (λa n c xs w h1 h2 h3 h4=>IV i0 Ll z tG (Ba.trans hn) (BO.trans hm) CP a n c xs w h1 h2 h3 h4) ?_
 .intro vs w;obtain ⟨c,hc⟩:=Zz.1 (show Tryz.f174.body.isSome=true from by kernel_rfl);have j6 : Tryz.f174.name ≠ "runtime.NumGoroutine" := by decide +kernel
  simp[callFunc,Tryz.func174,j6,hc]
 .intro xs bl r h;unfold T6 at h;split at h
  .rename_i els;obtain⟨h1,h2⟩:=aC h;cases h2;exact⟨els,rfl,by
    simp only[Bool.and_eq_true,Qa2] at h1;first | exact h1 | exact h1.2,rfl,rfl⟩
  .cases h
abbrev Nm(e:Nat×Nat×List CT×Sp):Prop:=kV Tryz.prog G e.1 e.2.2.2\/z9 Tryz.prog G e.1 e.2.1 e.2.2.2
theorem eL(h:kV Tryz.prog G a.1 a.2.2.2)(t:∀ e∈l,Nm e):∀ e∈a::l,Nm e:=each (.inl h) t
theorem eR(h:z9 Tryz.prog G a.1 a.2.1 a.2.2.2)(t:∀ e∈l,Nm e):∀ e∈a::l,Nm e:=each (.inr h) t
noncomputable def owT:List (Nat×Nat×List CT×Sp):=YH.map (λe=>(e.1,e.2.1,e.2.2.1,ownSp G0 ow e.2.1 e.1 e.2.2.2))
theorem ab_:YH.map (λe=>Tryz.prog.funcs[e.1]?)=YH.map (λe=>Zx e.2.2.2):=by kernel_rfl
theorem ab':YH.map (λe=>G.rts e.1)=YH.map (λe=>Zx e.2.2.2.resultTypes.toList):=by kernel_rfl
theorem ak3:∀ e∈owT,Nm e:=by
 intro e he;obtain⟨x,hx,rfl⟩:=List.mem_map.1 he;have h1:=List.map_inj_left.1 ab_ x hx;have h2:=List.map_inj_left.1 ab' x hx;refine .inr (Mu eK h1 (λe=> ?_) h2);have h0:=YE;rw[Array.all_eq_true_iff_forall_mem] at h0;have:=h0 x.2.2.2 (Array.mem_of_getElem? h1);rw[e] at this;simp at this
theorem ak0:∀ e∈K9,Nm e :=
 eR w25<|eR w26<|eR w36<|eR w48<|eR w66<|eR w71<|eL g72<|eR w74<|eR alf<|eL aji<|eR alu<|eR alw<|eR alx<|eR alC<|eR alG<|eR alH<|eL ajl<|eL ajm<|eR alQ<|eR alV<|eR alW<|eR alX<|eR al0<|eR al1<|eR al4<|eR al6<|eR al7<|eR ame<|eR amf<|eR amr<|eR amu<|eR ane<|eR ang<|eR anj<|eR ank<|eR ans<|eR anz<|eR anD<|eR anE<|eR anF<|eR anP<|eR anS<|eR anT<|eR anU<|eL ajo<|eL ajp<|eR an0<|eR an3<|eR aoa<|eR aog<|eR aoi<|eL ajq<|eR w42<|eR w60<|eR alm<|eR aln<|eR alo<|eR alq<|eR alv<|eR aly<|eR alz<|eR alA<|eR alD<|eR alE<|eR alK<|eR alS<|eR amK<|eR am5<|eR am_<|eR am'<|eR anf<|eR ani<|eR anl<|eR anq<|eR anu<|eR an9<|eR aof<|eR aoh<|eR w27<|eR w73<|eR w94<|eR ale<|eR ali<|eR alr<|eR alB<|eR alM<|eR alR<|eR alT<|eR alU<|eR al2<|eR amp<|eR amq<|eR amC<|eR amE<|eR amF<|eR amH<|eR amI<|eR amJ<|eR amO<|eR amU<|eR am1<|eR am6<|eR ana<|eR anb<|eR ant<|eR anO<|eR anQ<|eR anR<|eR anV<|eR an_<|eR aob<|eR aoe<|eR w50<|eR w70<|eR w96<|eR w97<|eR alc<|eR ald<|eR alF<|eR alN<|eR alO<|eR al3<|eR amt<|eR amB<|eR amD<|eR amM<|eR amS<|eR amT<|eR amW<|eR amZ<|eR am2<|eR am7<|eR am8<|eR am9<|eR anc<|eR anm<|eR ann<|eR ano<|eR anp<|eR anx<|eR anI<|eR anW<|eR anZ<|eR an6<|eR aoc<|eR w47<|eR w49<|eR al5<|eR amg<|eR amk<|eR aml<|eR amm<|eR amn<|eR amo<|eR ams<|eR amw<|eR amx<|eR amy<|eR amz<|eR amA<|eR amQ<|eR amR<|eR anv<|eR anw<|eR anB<|eR anC<|eR anG<|eR an1<|eR an2<|eR an5<|eR w32<|eR w46<|eR alP<|eR al'<|eR ama<|eR amh<|eR ami<|eR amj<|eR amv<|eR amY<|eR anr<|eR anK<|λe h=>nomatch h
theorem l5:∀ e∈owT++K9,Nm e:=λe h=>(List.mem_append.1 h).elim (ak3 e) (ak0 e)
theorem akE:∀ e∈K_,e.2.1<7->Nm e :=
 S_ (A:=owT++K9) (B:=Nf++QK) (by kernel_rfl) l5 (by kernel_rfl)
theorem ajj:kV Tryz.prog G 118 F4 :=
 Ak (sn:=vQ) (AP (by kernel_rfl) Bu (λf fn h=>Ha (f,fn) (nh h)) NB (f:=118) (k:=7) (ct:=[.sl 1,.int AI,.int AI,.int AI]) (s':=F4) rfl (λg r c s h hr=>akE (g,r,c,s) (nh h) hr) alk) (λxs bl r h=>by
  unfold F4 at h;split at h
  .rename_i a b l els;obtain⟨aI,h2⟩:=aC h;refine⟨(b-a).toNat+1,?_⟩;show ax (_&&_) _=_;rw[aq (by rw[aI,Bool.true_and,Qa2];omega)];exact h2
  .cases h)
theorem ak1:∀ e∈Nf,Nm e :=
 eR w61<|eL ajj<|eR alI<|eR alL<|eR alZ<|eR amc<|eR amN<|eR anh<|λe h=>nomatch h
theorem acb:∀ e∈owT++K9++Nf,Nm e:=λe h=>(List.mem_append.1 h).elim (l5 e) (ak1 e)
theorem afG:∀ e∈K_,e.2.1<8->Nm e :=
 S_ (A:=owT++K9++Nf) (B:=QK) (by kernel_rfl) acb (by kernel_rfl)
theorem ajk:kV Tryz.prog G 133 Ol :=
 Ak (sn:=F1) (AP (by kernel_rfl) Bu (λf fn h=>Ha (f,fn) (nh h)) NB (f:=133) (k:=8) (ct:=[.other]) (s':=Ol) rfl (λg r c s h hr=>afG (g,r,c,s) (nh h) hr) als) (λxs bl r h=>by
  unfold Ol at h;split at h
  .rename_i ks bs;obtain⟨aI,h2⟩:=aC h;refine⟨((Kerb.dz (Kerb.kn ks bs):Int)).toNat+1,?_⟩;show ax (_&&_) _=_;rw[aq (by rw[aI,Bool.true_and,Qa2];omega)];exact h2
  .cases h)
theorem ajn:kV Tryz.prog G 201 On :=
 Ak (sn:=F2) (AP (by kernel_rfl) Bu (λf fn h=>Ha (f,fn) (nh h)) NB (f:=201) (k:=8) (ct:=[.other,.c4]) (s':=On) rfl (λg r c s h hr=>afG (g,r,c,s) (nh h) hr) alY) (λxs bl r h=>by
  unfold On at h;split at h
  .rename_i ks bs b;obtain⟨aI,h2⟩:=aC h;refine⟨((b.length:Int)).toNat+1,?_⟩;show ax (_&&_) _=_;rw[aq (by rw[aI,Bool.true_and,Qa2];omega)];exact h2
  .cases h)
theorem ak2:∀ e∈QK,Nm e :=
 eR w31<|eR w68<|eL ajk<|eL ajn<|eR al9<|eR amG<|eR amL<|eR amP<|eR am3<|eR anA<|eR anY<|eR an7<|eR an8<|eR an'<|eR aod<|eR w45<|eR w85<|eR alj<|eR alp<|eR al8<|eR al_<|eR amV<|eR amX<|eR am0<|eR anJ<|eR anX<|eR an4<|eR amb<|eR amd<|eR anH<|eR anL<|eR anM<|eR anN<|eR alJ<|eR am4<|eR alh<|eR w63<|eR im<|λe h=>nomatch h
theorem akO:∀ e∈owT++K9++Nf++QK,Nm e:=λe h=>(List.mem_append.1 h).elim (acb e) (ak2 e)
theorem XM:K_=owT++K9++Nf++QK:=by kernel_rfl
theorem aar:∀ e∈K_,Nm e:=λe h=>akO e (XM ▸ h)
theorem uw:EX Tryz.prog G where
 mixed:=by kernel_rfl
 ty:=Bu
 each:=λf k ct s h=>aar (f,k,ct,s) (nh h)
 inl:=λf fn h=>Ha (f,fn) (nh h)
 cp:=NB
theorem own:ownKnob Tryz.prog.godebug=none:=by kernel_rfl
theorem laidOut:laidOutB Tryz.prog=true:=by kernel_rfl
end Go.Proofs.YtpelamlfpffacaaGreat
