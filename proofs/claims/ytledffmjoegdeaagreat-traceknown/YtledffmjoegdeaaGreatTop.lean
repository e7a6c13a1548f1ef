/- The table is right, and the laws. -/
import Derived.Test.YtledffmjoegdeaaGreatWalk1
import Derived.Test.YtledffmjoegdeaaGreatWalk2
import Derived.Test.YtledffmjoegdeaaGreatWalk3
import Derived.Test.YtledffmjoegdeaaGreatWalk4
import Derived.Test.YtledffmjoegdeaaGreatWalk5
import Derived.Test.YtledffmjoegdeaaGreatRows
set_option linter.all false
open Go.IntKind renaming i64->AI
open Option renaming isSome_iff_exists->Zz,some->Zx
open Nat renaming le_refl->Zy
namespace Go.Proofs.YtledffmjoegdeaaGreat
open Go Go.Abs Go.Proofs
open Go.ChangeShapes Go.WideShapes Go.ChangeAt Go.RowKit Go.Lib
set_option maxRecDepth 100000
variable {a:Nat×Nat×List CT×Sp}{l:List (Nat×Nat×List CT×Sp)}
theorem ac1:(List.range 530).map (λt=>match (Fe[t]?).join with | some _=>fq Tryz.prog t | none=>none)=Fe:=by kernel_rfl
theorem Bu:∀ t i,G.ty t=Zx i->fq Tryz.prog t=Zx i:=by
 intro t i h;have h1:(Fe[t]?).join=Zx i:=h;have h2:Fe[t]? = Zx (Zx i):=by
  cases hx:Fe[t]? with
  | none=>rw[hx] at h1;cases h1
  | some x=>rw[hx] at h1;rw[show x=Zx i from h1]
 have h3:((List.range 530).map (λt=>match (Fe[t]?).join with | some _=>fq Tryz.prog t | none=>none))[t]? = Zx (Zx i):=by rw[ac1];exact h2
 rw[List.getElem?_map] at h3;cases hr:(List.range 530)[t]? with
 | none=>rw[hr] at h3;cases h3
 | some y =>
  rw[hr] at h3;have hy:y=t:=by
   have:=(List.getElem?_eq_some_iff.1 hr).2;simpa using this.symm
  subst hy;simp only[Option.map_some,h1,Option.some.injEq] at h3;exact h3
theorem aer(a:Option Addr)(w:World):Calls Tryz.prog 369 #[.slice a 0 0,.int AI 0] w λe w'=>e = .returned (.slice a 0 0)/\w'=w:=by
 go_enter Tryz.func369,Tryz.ntmps369
 go_wp2
 go_ret
 exact⟨rfl,rfl⟩
set_option maxHeartbeats 4000000 in
theorem aes(i0:TypeInfo)(z:Value)(Ll:Tryz.prog.info? 5=Zx i0)(tG:i0.zero=Zx z)(Ba:i0.size=1)(BO:i0.bytes=1)(a:Option Addr)(n:Nat)(w:World)(h0:0<n)(hn:n<=140737488355328):Calls Tryz.prog 369 #[.slice a 0 0,.int AI n] w λe w' =>
   e = .returned (.slice (Zx ⟨w.heap.size,0,none⟩) 0 (grownCap w n 0 5)) /\
   w'=w.drew.alloc (.cells (#[]++Builtin.zeroCells z.cells n++Builtin.zeroCells z.cells (grownCap w n 0 5-n)) 5):=by
 have h1:¬ ((n:Int)<0):=by omega
 have h3:wrap64 ((n:Int))=(n:Int):=by unfold wrap64;omega
 have h4:(n:Int)>0:=by omega
 have hold:(Builtin.firstCells i0.size 0 (.slice a 0 0)).run Tryz.prog w.drew = .ok #[] w.drew:=by
  cases a with
  | none=>exact run_firstCells_none w.drew i0.size 0 0 0
  | some a=>exact run_firstCells_some w.drew i0.size 0 a 0 0 [] (by simp) (λj v hj=>by simp at hj)
 have xK:Builtin.nextslicecap (0+n) 0*i0.bytes<=281474976710656:=growslice_fits (by omega) (by rw[BO];omega);have NL:∀ ty,(Builtin.append_ #[62,3] ty #[.slice a 0 0,.int AI (n:Int)]).run Tryz.prog w =
   .ok (.slice (Zx ⟨w.heap.size,0,none⟩) n (grownCap w n 0 5)) (w.drew.alloc (.cells (#[]++Builtin.zeroCells z.cells n++Builtin.zeroCells z.cells (grownCap w n 0 5-n)) 5)):=λty=>by
  have h:=Lib.run_append_grow_zeros w 62 3 ty 5 i0 z AI AI Tryz.underlying62 Tryz.underlying3 Ll tG a 0 0 [] hold n h0 (by omega) (by omega) (by omega) (by rw[BO];omega) xK;simpa using h
 clear hold xK
 go_enter Tryz.func369,Tryz.ntmps369
 cases a with
 | none =>
  go_wp2_with (at_builtin;refine Lib.wpList_append_run _ rfl _ _ _ _ rfl _ _ rfl rfl _ _ (NL _) ?_)
  all_goals (go_ret;exact⟨rfl,rfl⟩)
 | some a =>
  obtain⟨ab,ao,asp⟩:=a
  go_wp2_with (at_builtin;refine Lib.wpList_append_run _ rfl _ _ _ _ rfl _ _ rfl rfl _ _ (NL _) ?_)
  all_goals (go_ret;exact⟨rfl,rfl⟩)
theorem Yr:∃ i0,Tryz.prog.info? 5=Zx i0/\i0.zero=Zx (.int .u8 0)/\i0.size=1/\i0.bytes=1:=by
 obtain⟨info,z,h1,h2,h3,h4,h5,_⟩:=bq (Bu 5 _ (show G.ty 5=Zx ⟨1,1,.u8,[.u8 0],[.u8],[.u8]⟩ from by kernel_rfl));obtain⟨Vi,ei,wY,yn,Pq,NM⟩:=jA (show Ey Tryz.prog 5=true from by kernel_rfl);exact⟨ei,wY,NM,yn,Pq⟩
theorem asd:kV Tryz.prog G 369 ZT:=by
 obtain⟨i0,Ll,tG,Ba,BO⟩:=Yr;refine LU (e:=5) (t:=62) (cap:=λw n=>grownCap w n 0 5) (cells:=λw n => #[]++Builtin.zeroCells (Value.int .u8 0).cells n++Builtin.zeroCells (Value.int .u8 0).cells (grownCap w n 0 5-n)) ?_ (by kernel_rfl) (i:=⟨1,24,.slice 5 true,[.bJ],[.c4],[]⟩) (by kernel_rfl) rfl aer (λa n w h1 h2=>aes i0 _ Ll tG Ba BO a n w h1 h2) ?_ ?_
 .intro vs w;obtain ⟨c,hc⟩:=Zz.1 (show Tryz.f369.body.isSome=true from by kernel_rfl);have j6 : Tryz.f369.name ≠ "runtime.NumGoroutine" := by decide +kernel
  simp[callFunc,Tryz.func369,j6,hc]
 .intro w n h1 h2;have CJ:=grownCap_ge w n 0 5;refine⟨CJ,grownCap_le_maxLen w n 0 5 (by unfold maxLen;omega),?_⟩;simp[Builtin.zeroCells,Value.cells];omega
 .intro xs bl r h;unfold ZT at h;split at h
  .rename_i n;obtain⟨h1,h2⟩:=aC h;simp only[Bool.and_eq_true,Qa2] at h1;cases h2;exact⟨n,rfl,h1.1,h1.2,rfl,rfl⟩
  .cases h
theorem asi:kV Tryz.prog G 426 Uz :=
 Jf Tryz.func426 (by decide +kernel) (by kernel_rfl) (by kernel_rfl) (by kernel_rfl) (rt:=3) (by kernel_rfl) (λxs bl r h=>by
  unfold Uz at h;split at h
  .cases h;exact⟨_,_,rfl,rfl,rfl⟩
  .cases h)
theorem asj:kV Tryz.prog G 467 ahJ :=
 yW Tryz.func467 (by decide +kernel) (by kernel_rfl) (by kernel_rfl) (by kernel_rfl) (rt:=3) (by kernel_rfl) (λxs bl r h=>by
  unfold ahJ at h;split at h
  .cases h;exact⟨_,_,rfl,rfl,rfl⟩
  .cases h)
theorem pJ {f : Nat} {fn : Func} {r : List (Nat × Func)} (h : Tryz.prog.funcs[f]? = Option.some fn) (t : ∀ e ∈ r, Tryz.prog.funcs[e.1]? = Option.some e.2 ∧ e.2.name ≠ "runtime.NumGoroutine") (n : fn.name ≠ "runtime.NumGoroutine" := by decide +kernel) : ∀ e ∈ (f, fn) :: r, Tryz.prog.funcs[e.1]? = Option.some e.2 ∧ e.2.name ≠ "runtime.NumGoroutine" := each ⟨h, n⟩ t
theorem Ha : ∀ e ∈ abP, Tryz.prog.funcs[e.1]? = Zx e.2 ∧ e.2.name ≠ "runtime.NumGoroutine" := by
 unfold abP;exact pJ Tryz.func35<|pJ Tryz.func49<|pJ Tryz.func75<|pJ Tryz.func156<|pJ Tryz.func230<|pJ Tryz.func276<|pJ Tryz.func305<|pJ Tryz.func361<|pJ Tryz.func425<|pJ Tryz.func73<|pJ Tryz.func119<|pJ Tryz.func160<|pJ Tryz.func191<|pJ Tryz.func210<|pJ Tryz.func278<|pJ Tryz.func303<|pJ Tryz.func362<|pJ Tryz.func121<|pJ Tryz.func151<|pJ Tryz.func168<|pJ Tryz.func279<|pJ Tryz.func167<|pJ Tryz.func194<|pJ Tryz.func212<|pJ Tryz.func220<|pJ Tryz.func154<|pJ Tryz.func74<|pJ Tryz.func123<|pJ Tryz.func158<|pJ Tryz.func77<|pJ Tryz.func78<|pJ Tryz.func79<|pJ Tryz.func80<|pJ Tryz.func81<|pJ Tryz.func82<|pJ Tryz.func153<|pJ Tryz.func155<|pJ Tryz.func76<|pJ Tryz.func302<|pJ Tryz.func34<|pJ Tryz.func211<|pJ Tryz.func122<|pJ Tryz.func24<|pJ Tryz.func11<|λe h=>by cases h
theorem nh{α:Type}{k:Nat}{x:α}:∀ {l:List (Nat×α)},look k l=Zx x->(k,x)∈l
 | [],h=>by cases h
 | (j,y)::r,h=>by
  simp only[look] at h;cases hb:Nat.beq j k with
  | false=>rw[hb] at h;exact List.mem_cons_of_mem _ (nh h)
  | true=>rw[hb] at h;cases h;rw[Nat.eq_of_beq_eq_true hb];exact List.mem_cons_self ..
theorem Av{α:Type}{k m:Nat}{x:α}{r:List α}:∀ {l:List (Nat×Nat×List α)},JR k m l=x::r->(k,m,x::r)∈l
 | [],h=>by cases h
 | (j,i,y)::q,h=>by
  simp only[JR] at h;cases hb:Nat.beq j k with
  | false=>rw[hb] at h;exact List.mem_cons_of_mem _ (Av h)
  | true =>
   rw[hb] at h;simp only[Qa6] at h;cases hc:Nat.beq i m with
   | false=>rw[hc] at h;exact List.mem_cons_of_mem _ (Av h)
   | true=>rw[hc] at h;simp only[Qa6] at h;rw[Nat.eq_of_beq_eq_true hb,Nat.eq_of_beq_eq_true hc,h];exact List.mem_cons_self ..
theorem VQ:(YB.all λe => !(Nat.beq e.2.1 9999998))=true:=by kernel_rfl
theorem NB:∀ f x l,G.keep f 9999998=x::l->Vt Tryz.prog f:=by
 intro f x l h;have h1:=List.all_eq_true.1 VQ _ (Av h);simp at h1
set_option maxHeartbeats 2000000 in
theorem aaD(i0:TypeInfo)(hi:Tryz.prog.info? 5=Zx i0)(tG:i0.zero=Zx (.int .u8 0))(Vo:i0.size=1)(NW:i0.bytes=1)(a:Addr)(n c:Nat)(xs:List Int)(w:World)(hx:xs.length=n)(y0:n<=140737488355328)(hc:∀ i,i<n->w.cell? (a.add i)=Zx (.int .u8 (xs.getD i 0))) :
  Calls Tryz.prog 143 #[.slice (Zx a) n c] w λe w'=>∃ v',e = .returned v'/\w'.ownsRow w.heap.size 5 1 v' n (xs.map (Value.int .u8))/\Below w.heap.size w w':=by
 have ON:∀ (w:World) (a:Option Addr) (n c n' c':Nat),(binOp .eql 62 (.slice a n c) (.slice none n' c')).run Tryz.prog w = .ok (.bool a.isNone) w:=λw a n c n' c'=>Lib.run_eql_slice_nil w _ _ a n c n' c' Tryz.underlying62;have UL:∀ w,Sem.run Tryz.prog (underlying 62) w = .ok (TypeDesc.slice 5) w:=run_underlying Tryz.underlying62;have z5:∀ w,Sem.run Tryz.prog (Go.sizeOf 5) w = .ok 1 w:=λw=>by simp[Go.sizeOf,typeInfo,hi,Vo]
 have A:Aside (∀ i,i<n->w.cell? (a.add i)=Zx (.int .u8 (xs.getD i 0))):=hc;clear hc
 go_enter Tryz.func143,Tryz.ntmps143
 go_wp2_with (at_builtin;refine wpList_append_own _ rfl _ _ 62 rfl w.heap.size 5 i0 (.int .u8 0) 1 1 Tryz.underlying62 hi tG Vo NW rfl (by decide) _ _ _ rfl (World.ownsRow_made w #[] 0 (Zy _) (Nat.zero_le _) rfl) a n c (xs.map (Value.int .u8)) rfl ?O8 ?PL ?Qt ?RA ?RB ?RC ?_)
 case O8=>simp;omega
 case PL =>
  intro j u hj;have hjn:j<n:=by
   have:=(List.getElem?_eq_some_iff.1 hj).1;simp at this;omega
  refine Lib.cell?_alloc_some _ ?_;rw[A.out j hjn];have e:(xs.map (Value.int .u8))[j]? = Zx (Value.int .u8 (xs.getD j 0)):=by simp[List.getD,List.getElem?_eq_getElem (show j<xs.length by omega)]
  rw[e] at hj;exact hj
 case Qt=>intro u hu;obtain⟨x,_,rfl⟩:=List.mem_map.1 hu;rfl
 case RA=>unfold maxLen;omega
 case RB=>omega
 case RC=>simp
 intro v' w1 uF Jm Js
 go_wp2
 go_ret
 refine⟨v',rfl,by simpa using uF,?_⟩;exact((Below.refl _ w).alloc (Zy _) _).grown Jm (by simp) (by intro k hk;simp[Value.ownBlock] at hk;omega)
set_option maxHeartbeats 1000000 in
theorem aaC(n c:Nat)(w:World):Calls Tryz.prog 143 #[.slice none n c] w λe w'=>e = .returned (.slice none 0 0)/\w'=w:=by
 have ON:∀ (w:World) (a:Option Addr) (n c n' c':Nat),(binOp .eql 62 (.slice a n c) (.slice none n' c')).run Tryz.prog w = .ok (.bool a.isNone) w:=λw a n c n' c'=>Lib.run_eql_slice_nil w _ _ a n c n' c' Tryz.underlying62
 go_enter Tryz.func143,Tryz.ntmps143
 go_wp2
 go_ret
 exact⟨rfl,rfl⟩
theorem ar8:kV Tryz.prog G 143 ac9:=by
 obtain⟨i0,Ll,tG,Ba,BO⟩:=Yr;refine Jd (e:=5) (t:=62) ?_ (by kernel_rfl) aaC (λa n c xs w h1 h2 h3=>aaD i0 Ll tG Ba BO a n c xs w h1 h2 h3) ?_
 .intro vs w;obtain ⟨c,hc⟩:=Zz.1 (show Tryz.f143.body.isSome=true from by kernel_rfl);have j6 : Tryz.f143.name ≠ "runtime.NumGoroutine" := by decide +kernel
  simp[callFunc,Tryz.func143,j6,hc]
 .intro xs bl r h;unfold ac9 at h;split at h
  .rename_i n;obtain⟨h1,h2⟩:=aC h;cases h2;exact⟨n,rfl,Qa3 h1,rfl,rfl⟩
  .cases h
set_option maxHeartbeats 2000000 in
theorem adu(i0:TypeInfo)(hi:Tryz.prog.info? 61=Zx i0)(z:Value)(tG:i0.zero=Zx z)(Vo:i0.size=1)(NW:i0.bytes=8)(CP:z.cells.size=1)(a:Addr)(n c:Nat)(xs:List Value)(w:World)(hx:xs.length=n*1)(y0:n<=1000000)(hc:∀ j u,xs[j]? = Zx u->w.cell? (a.add j)=Zx u)(G7:∀ u∈xs,u.oneCell'=true) :
  Calls Tryz.prog 206 #[.slice (Zx a) n c] w λe w'=>∃ v',e = .returned v'/\w'.ownsRow w.heap.size 61 1 v' n xs/\Below w.heap.size w w':=by
 have ON:∀ (w:World) (a:Option Addr) (n c n' c':Nat),(binOp .eql 37 (.slice a n c) (.slice none n' c')).run Tryz.prog w = .ok (.bool a.isNone) w:=λw a n c n' c'=>Lib.run_eql_slice_nil w _ _ a n c n' c' Tryz.underlying37;have UL:∀ w,Sem.run Tryz.prog (underlying 37) w = .ok (TypeDesc.slice 61) w:=run_underlying Tryz.underlying37;have z5:∀ w,Sem.run Tryz.prog (Go.sizeOf 61) w = .ok 1 w:=λw=>by simp[Go.sizeOf,typeInfo,hi,Vo]
 have A:Aside (∀ j u,xs[j]? = Zx u->w.cell? (a.add j)=Zx u):=hc;clear hc
 go_enter Tryz.func206,Tryz.ntmps206
 go_wp2_with (at_builtin;refine wpList_append_own _ rfl _ _ 37 rfl w.heap.size 61 i0 z 1 8 Tryz.underlying37 hi tG Vo NW CP (by decide) _ _ _ rfl (World.ownsRow_made w #[] 0 (Zy _) (Nat.zero_le _) rfl) a n c xs rfl ?O8 ?PL ?Qt ?RA ?RB ?RC ?_)
 case O8=>exact hx
 case PL =>
  intro j u hj;exact Lib.cell?_alloc_some _ (A.out j u hj)
 case Qt=>exact G7
 case RA=>unfold maxLen;omega
 case RB=>omega
 case RC=>simp
 intro v' w1 uF Jm Js
 go_wp2
 go_ret
 refine⟨v',rfl,by simpa using uF,?_⟩;exact((Below.refl _ w).alloc (Zy _) _).grown Jm (by simp) (by intro k hk;simp[Value.ownBlock] at hk;omega)
set_option maxHeartbeats 1000000 in
theorem ads(n c:Nat)(w:World):Calls Tryz.prog 206 #[.slice none n c] w λe w'=>e = .returned (.slice none 0 0)/\w'=w:=by
 have ON:∀ (w:World) (a:Option Addr) (n c n' c':Nat),(binOp .eql 37 (.slice a n c) (.slice none n' c')).run Tryz.prog w = .ok (.bool a.isNone) w:=λw a n c n' c'=>Lib.run_eql_slice_nil w _ _ a n c n' c' Tryz.underlying37
 go_enter Tryz.func206,Tryz.ntmps206
 go_wp2
 go_ret
 exact⟨rfl,rfl⟩
theorem ar9:kV Tryz.prog G 206 ahg:=by
 obtain⟨ei,iR⟩:=Zz.1 (show(G.ty 61).isSome=true from by kernel_rfl);obtain⟨i2,mM⟩:=Zz.1 (show(G.ty 37).isSome=true from by kernel_rfl);have q:(G.ty 61).map (λi=>(i.size,i.bytes))=Zx (1,8)/\(G.ty 37).map (·.kind)=Zx (.slice 61 false):=⟨by kernel_rfl,by kernel_rfl⟩;rw[iR,mM] at q;obtain⟨q1,q2⟩:=q;simp only[Option.map_some,Option.some.injEq,Prod.mk.injEq] at q1 q2;obtain⟨hn,hm⟩:=q1;obtain⟨i0,z,Ll,Ba,BO,tG,LV,Vr,_⟩:=bq (Bu 61 _ iR);have CP:z.cells.size=1:=by
  have:=(f_ (w:=(default:World)) (p:=λ_=>0) LV).len;rw[Vr,hn] at this;simpa using this
 refine yV (e:=61) (t:=37) (size:=1) ?_ (by kernel_rfl) mM q2 iR hn (by decide) ads (λa n c xs w h1 h2 h3 h4=>adu i0 Ll z tG (Ba.trans hn) (BO.trans hm) CP a n c xs w h1 h2 h3 h4) ?_
 .intro vs w;obtain ⟨c,hc⟩:=Zz.1 (show Tryz.f206.body.isSome=true from by kernel_rfl);have j6 : Tryz.f206.name ≠ "runtime.NumGoroutine" := by decide +kernel
  simp[callFunc,Tryz.func206,j6,hc]
 .intro xs bl r h;unfold ahg at h;split at h
  .rename_i els;obtain⟨h1,h2⟩:=aC h;cases h2;exact⟨els,rfl,by
    simp only[Bool.and_eq_true,Qa2] at h1;first | exact h1 | exact h1.2,rfl,rfl⟩
  .cases h
set_option maxHeartbeats 2000000 in
theorem adv(i0:TypeInfo)(hi:Tryz.prog.info? 62=Zx i0)(z:Value)(tG:i0.zero=Zx z)(Vo:i0.size=1)(NW:i0.bytes=24)(CP:z.cells.size=1)(a:Addr)(n c:Nat)(xs:List Value)(w:World)(hx:xs.length=n*1)(y0:n<=1000000)(hc:∀ j u,xs[j]? = Zx u->w.cell? (a.add j)=Zx u)(G7:∀ u∈xs,u.oneCell'=true) :
  Calls Tryz.prog 207 #[.slice (Zx a) n c] w λe w'=>∃ v',e = .returned v'/\w'.ownsRow w.heap.size 62 1 v' n xs/\Below w.heap.size w w':=by
 have ON:∀ (w:World) (a:Option Addr) (n c n' c':Nat),(binOp .eql 38 (.slice a n c) (.slice none n' c')).run Tryz.prog w = .ok (.bool a.isNone) w:=λw a n c n' c'=>Lib.run_eql_slice_nil w _ _ a n c n' c' Tryz.underlying38;have UL:∀ w,Sem.run Tryz.prog (underlying 38) w = .ok (TypeDesc.slice 62) w:=run_underlying Tryz.underlying38;have z5:∀ w,Sem.run Tryz.prog (Go.sizeOf 62) w = .ok 1 w:=λw=>by simp[Go.sizeOf,typeInfo,hi,Vo]
 have A:Aside (∀ j u,xs[j]? = Zx u->w.cell? (a.add j)=Zx u):=hc;clear hc
 go_enter Tryz.func207,Tryz.ntmps207
 go_wp2_with (at_builtin;refine wpList_append_own _ rfl _ _ 38 rfl w.heap.size 62 i0 z 1 24 Tryz.underlying38 hi tG Vo NW CP (by decide) _ _ _ rfl (World.ownsRow_made w #[] 0 (Zy _) (Nat.zero_le _) rfl) a n c xs rfl ?O8 ?PL ?Qt ?RA ?RB ?RC ?_)
 case O8=>exact hx
 case PL =>
  intro j u hj;exact Lib.cell?_alloc_some _ (A.out j u hj)
 case Qt=>exact G7
 case RA=>unfold maxLen;omega
 case RB=>omega
 case RC=>simp
 intro v' w1 uF Jm Js
 go_wp2
 go_ret
 refine⟨v',rfl,by simpa using uF,?_⟩;exact((Below.refl _ w).alloc (Zy _) _).grown Jm (by simp) (by intro k hk;simp[Value.ownBlock] at hk;omega)
set_option maxHeartbeats 1000000 in
theorem adt(n c:Nat)(w:World):Calls Tryz.prog 207 #[.slice none n c] w λe w'=>e = .returned (.slice none 0 0)/\w'=w:=by
 have ON:∀ (w:World) (a:Option Addr) (n c n' c':Nat),(binOp .eql 38 (.slice a n c) (.slice none n' c')).run Tryz.prog w = .ok (.bool a.isNone) w:=λw a n c n' c'=>Lib.run_eql_slice_nil w _ _ a n c n' c' Tryz.underlying38
 go_enter Tryz.func207,Tryz.ntmps207
 go_wp2
 go_ret
 exact⟨rfl,rfl⟩
theorem ar_:kV Tryz.prog G 207 ahn:=by
 obtain⟨ei,iR⟩:=Zz.1 (show(G.ty 62).isSome=true from by kernel_rfl);obtain⟨i2,mM⟩:=Zz.1 (show(G.ty 38).isSome=true from by kernel_rfl);have q:(G.ty 62).map (λi=>(i.size,i.bytes))=Zx (1,24)/\(G.ty 38).map (·.kind)=Zx (.slice 62 false):=⟨by kernel_rfl,by kernel_rfl⟩;rw[iR,mM] at q;obtain⟨q1,q2⟩:=q;simp only[Option.map_some,Option.some.injEq,Prod.mk.injEq] at q1 q2;obtain⟨hn,hm⟩:=q1;obtain⟨i0,z,Ll,Ba,BO,tG,LV,Vr,_⟩:=bq (Bu 62 _ iR);have CP:z.cells.size=1:=by
  have:=(f_ (w:=(default:World)) (p:=λ_=>0) LV).len;rw[Vr,hn] at this;simpa using this
 refine yV (e:=62) (t:=38) (size:=1) ?_ (by kernel_rfl) mM q2 iR hn (by decide) adt (λa n c xs w h1 h2 h3 h4=>adv i0 Ll z tG (Ba.trans hn) (BO.trans hm) CP a n c xs w h1 h2 h3 h4) ?_
 .intro vs w;obtain ⟨c,hc⟩:=Zz.1 (show Tryz.f207.body.isSome=true from by kernel_rfl);have j6 : Tryz.f207.name ≠ "runtime.NumGoroutine" := by decide +kernel
  simp[callFunc,Tryz.func207,j6,hc]
 .intro xs bl r h;unfold ahn at h;split at h
  .rename_i els;obtain⟨h1,h2⟩:=aC h;cases h2;exact⟨els,rfl,by
    simp only[Bool.and_eq_true,Qa2] at h1;first | exact h1 | exact h1.2,rfl,rfl⟩
  .cases h
theorem aew(a:Option Addr)(w:World):Calls Tryz.prog 394 #[.slice a 0 0,.int AI 0] w λe w'=>e = .returned (.slice a 0 0)/\w'=w:=by
 go_enter Tryz.func394,Tryz.ntmps394
 go_wp2
 go_ret
 exact⟨rfl,rfl⟩
set_option maxHeartbeats 4000000 in
theorem aex(i0:TypeInfo)(z:Value)(Ll:Tryz.prog.info? 61=Zx i0)(tG:i0.zero=Zx z)(Ba:i0.size=1)(BO:i0.bytes=8)(CP:z.cells.size=1)(a:Option Addr)(n:Nat)(w:World)(h0:0<n)(hn:n<=1000000000000):Calls Tryz.prog 394 #[.slice a 0 0,.int AI n] w λe w' =>
   e = .returned (.slice (Zx ⟨w.heap.size,0,none⟩) 0 (grownCap w n 0 61)) /\
   w'=w.drew.alloc (.cells (#[]++Builtin.zeroCells z.cells n++Builtin.zeroCells z.cells (grownCap w n 0 61-n)) 61):=by
 have h1:¬ ((n:Int)<0):=by omega
 have h3:wrap64 ((n:Int))=(n:Int):=by unfold wrap64;omega
 have h4:(n:Int)>0:=by omega
 have hold:(Builtin.firstCells i0.size 0 (.slice a 0 0)).run Tryz.prog w.drew = .ok #[] w.drew:=by
  cases a with
  | none=>exact run_firstCells_none w.drew i0.size 0 0 0
  | some a=>exact run_firstCells_some w.drew i0.size 0 a 0 0 [] (by simp) (λj v hj=>by simp at hj)
 have xK:Builtin.nextslicecap (0+n) 0*i0.bytes<=281474976710656:=growslice_fits (by omega) (by rw[BO];omega);have NL:∀ ty,(Builtin.append_ #[37,3] ty #[.slice a 0 0,.int AI (n:Int)]).run Tryz.prog w =
   .ok (.slice (Zx ⟨w.heap.size,0,none⟩) n (grownCap w n 0 61)) (w.drew.alloc (.cells (#[]++Builtin.zeroCells z.cells n++Builtin.zeroCells z.cells (grownCap w n 0 61-n)) 61)):=λty=>by
  have h:=Lib.run_append_grow_zeros w 37 3 ty 61 i0 z AI AI Tryz.underlying37 Tryz.underlying3 Ll tG a 0 0 [] hold n h0 (by omega) (by omega) (by omega) (by rw[BO];omega) xK;simpa using h
 clear hold xK
 go_enter Tryz.func394,Tryz.ntmps394
 cases a with
 | none =>
  go_wp2_with (at_builtin;refine Lib.wpList_append_run _ rfl _ _ _ _ rfl _ _ rfl rfl _ _ (NL _) ?_)
  all_goals (go_ret;exact⟨rfl,rfl⟩)
 | some a =>
  obtain⟨ab,ao,asp⟩:=a
  go_wp2_with (at_builtin;refine Lib.wpList_append_run _ rfl _ _ _ _ rfl _ _ rfl rfl _ _ (NL _) ?_)
  all_goals (go_ret;exact⟨rfl,rfl⟩)
theorem asg:kV Tryz.prog G 394 OG:=by
 obtain⟨ei,iR⟩:=Zz.1 (show(G.ty 61).isSome=true from by kernel_rfl);obtain⟨i2,mM⟩:=Zz.1 (show(G.ty 37).isSome=true from by kernel_rfl);have q:(G.ty 61).map (λi=>(i.size,i.bytes))=Zx (1,8)/\(G.ty 37).map (·.kind)=Zx (.slice 61 false):=⟨by kernel_rfl,by kernel_rfl⟩;rw[iR,mM] at q;obtain⟨q1,q2⟩:=q;simp only[Option.map_some,Option.some.injEq,Prod.mk.injEq] at q1 q2;obtain⟨hn,hm⟩:=q1;obtain⟨i0,z,Ll,Ba,BO,tG,LV,Vr,_⟩:=bq (Bu 61 _ iR);have CP:z.cells.size=1:=by
  have:=(f_ (w:=(default:World)) (p:=λ_=>0) LV).len;rw[Vr,hn] at this;simpa using this
 refine Je (e:=61) (t:=37) (cap:=λw n=>grownCap w n 0 61) (cells:=λw n => #[]++Builtin.zeroCells z.cells n++Builtin.zeroCells z.cells (grownCap w n 0 61-n)) ?_ (by kernel_rfl) mM q2 iR (by rw[hn];decide) aew (λa n w h1 h2=>aex i0 z Ll tG (Ba.trans hn) (BO.trans hm) CP a n w h1 h2) ?_ ?_
 .intro vs w;obtain ⟨c,hc⟩:=Zz.1 (show Tryz.f394.body.isSome=true from by kernel_rfl);have j6 : Tryz.f394.name ≠ "runtime.NumGoroutine" := by decide +kernel
  simp[callFunc,Tryz.func394,j6,hc]
 .intro w n h1 h2;have CJ:=grownCap_ge w n 0 61;refine⟨CJ,grownCap_le_maxLen w n 0 61 (by unfold maxLen;omega),?_⟩;have hz:∀ k,(Builtin.zeroCells z.cells k).size=k*z.cells.size:=λk=>by simp[Builtin.zeroCells]
  rw[Array.size_append,Array.size_append,hz,hz,CP,hn];simp;omega
 .intro xs bl r h;unfold OG at h;split at h
  .rename_i n;obtain⟨h1,h2⟩:=aC h;simp only[Bool.and_eq_true,Qa2] at h1;cases h2;exact⟨n,rfl,h1.1,h1.2,rfl,rfl⟩
  .cases h
abbrev Nm(e:Nat×Nat×List CT×Sp):Prop:=kV Tryz.prog G e.1 e.2.2.2\/z9 Tryz.prog G e.1 e.2.1 e.2.2.2
theorem eL(h:kV Tryz.prog G a.1 a.2.2.2)(t:∀ e∈l,Nm e):∀ e∈a::l,Nm e:=each (.inl h) t
theorem eR(h:z9 Tryz.prog G a.1 a.2.1 a.2.2.2)(t:∀ e∈l,Nm e):∀ e∈a::l,Nm e:=each (.inr h) t
noncomputable def DY:List (Nat×Nat×List CT×Sp):=YH.map (λe=>(e.1,e.2.1,e.2.2.1,ownSp G0 ow e.2.1 e.1 e.2.2.2))
theorem ab_:YH.map (λe=>Tryz.prog.funcs[e.1]?)=YH.map (λe=>Zx e.2.2.2):=by kernel_rfl
theorem ab':YH.map (λe=>G.rts e.1)=YH.map (λe=>Zx e.2.2.2.resultTypes.toList):=by kernel_rfl
theorem ak3:∀ e∈DY,Nm e:=by
 intro e he;obtain⟨x,hx,rfl⟩:=List.mem_map.1 he;have h1:=List.map_inj_left.1 ab_ x hx;have h2:=List.map_inj_left.1 ab' x hx;refine .inr (Mu eK h1 (λe=> ?_) h2);have h0:=YE;rw[Array.all_eq_true_iff_forall_mem] at h0;have:=h0 x.2.2.2 (Array.mem_of_getElem? h1);rw[e] at this;simp at this
theorem ak0:∀ e∈K9,Nm e :=
 eR w22<|eR w23<|eR w28<|eR w29<|eR w30<|eR w63<|eR w72<|eR w97<|eR atq<|eR atw<|eL ar8<|eR aty<|eR atA<|eR atB<|eR alK<|eR alR<|eR alS<|eR al0<|eR atI<|eL ar9<|eL ar_<|eR atN<|eR atP<|eR amb<|eR amv<|eR amy<|eR amA<|eR at0<|eR at3<|eR at8<|eR aum<|eR amF<|eR amG<|eR auv<|eR ang<|eL asd<|eR anp<|eL asg<|eR auw<|eR an0<|eR an3<|eL asi<|eR aob<|eR aod<|eR aog<|eR auA<|eR auB<|eR auC<|eR auI<|eR auN<|eR auR<|eR auV<|eR auY<|eL asj<|eR w13<|eR w41<|eR w58<|eR alk<|eR atp<|eR atr<|eR atx<|eR atz<|eR alI<|eR alJ<|eR atC<|eR atE<|eR alL<|eR atO<|eR atV<|eR atW<|eR at2<|eR at6<|eR at9<|eR auc<|eR anf<|eR anh<|eR anM<|eR anN<|eR auK<|eR auQ<|eR auZ<|eR w21<|eR w48<|eR w83<|eR w93<|eR w99<|eR ato<|eR atu<|eR atD<|eR atF<|eR atQ<|eR atT<|eR at4<|eR at5<|eR aub<|eR amB<|eR amD<|eR amE<|eR amK<|eR aun<|eR auo<|eR anj<|eR anq<|eR ans<|eR anA<|eR anH<|eR auy<|eR auE<|eR auJ<|eR auL<|eR auM<|eR auS<|eR auT<|eR auU<|eR au0<|eR w85<|eR w86<|eR w89<|eR w92<|eR alr<|eR atv<|eR alP<|eR atG<|eR atS<|eR atU<|eR amx<|eR aua<|eR amH<|eR amI<|eR am9<|eR aup<|eR ann<|eR ano<|eR anx<|eR anz<|eR anC<|eR anF<|eR anI<|eR anO<|eR anZ<|eR an6<|eR an'<|eR aoe<|eR aof<|eR auF<|eR auG<|eR auO<|eR auX<|eR w62<|eR atX<|eR al3<|eR atY<|eR al6<|eR al7<|eR atZ<|eR al8<|eR amJ<|eR amL<|eR amM<|eR amN<|eR amO<|eR amP<|eR ani<|eR anv<|eR anw<|eR an1<|eR an2<|eR an5<|eR aoa<|eR aoi<|eR auz<|eR auD<|eR auW<|eR w61<|eR alq<|eR als<|eR al4<|eR al5<|eR at7<|eR auh<|eR aui<|eR aur<|eR anE<|eR auH<|λe h=>nomatch h
theorem l5:∀ e∈DY++K9,Nm e:=λe h=>(List.mem_append.1 h).elim (ak3 e) (ak0 e)
theorem akE:∀ e∈K_,e.2.1<7->Nm e :=
 S_ (A:=DY++K9) (B:=Nf++QK) (by kernel_rfl) l5 (by kernel_rfl)
theorem ash:kV Tryz.prog G 395 KX :=
 Ak (sn:=abl) (AP (by kernel_rfl) Bu (λf fn h=>Ha (f,fn) (nh h)) NB (f:=395) (k:=7) (ct:=[.sl 1,.int AI,.int AI,.int AI]) (s':=KX) rfl (λg r c s h hr=>akE (g,r,c,s) (nh h) hr) anL) (λxs bl r h=>by
  unfold KX at h;split at h
  .rename_i a b l els;obtain⟨aI,h2⟩:=aC h;refine⟨(b-a).toNat+1,?_⟩;show ax (_&&_) _=_;rw[aq (by rw[aI,Bool.true_and,Qa2];omega)];exact h2
  .cases h)
theorem ak1:∀ e∈Nf,Nm e :=
 eR w31<|eR ats<|eR alX<|eR atJ<|eR al9<|eR auk<|eR anl<|eL ash<|λe h=>nomatch h
theorem acb:∀ e∈DY++K9++Nf,Nm e:=λe h=>(List.mem_append.1 h).elim (l5 e) (ak1 e)
theorem afG:∀ e∈K_,e.2.1<8->Nm e :=
 S_ (A:=DY++K9++Nf) (B:=QK) (by kernel_rfl) acb (by kernel_rfl)
theorem ar7:kV Tryz.prog G 139 aeP :=
 Ak (sn:=adi) (AP (by kernel_rfl) Bu (λf fn h=>Ha (f,fn) (nh h)) NB (f:=139) (k:=8) (ct:=[.other]) (s':=aeP) rfl (λg r c s h hr=>afG (g,r,c,s) (nh h) hr) att) (λxs bl r h=>by
  unfold aeP at h;split at h
  .rename_i ks bs;obtain⟨aI,h2⟩:=aC h;refine⟨((Kerb.dz (Kerb.kn ks bs):Int)).toNat+1,?_⟩;show ax (_&&_) _=_;rw[aq (by rw[aI,Bool.true_and,Qa2];omega)];exact h2
  .cases h)
theorem asb:kV Tryz.prog G 214 aeT :=
 Ak (sn:=adj) (AP (by kernel_rfl) Bu (λf fn h=>Ha (f,fn) (nh h)) NB (f:=214) (k:=8) (ct:=[.other,.c4]) (s':=aeT) rfl (λg r c s h hr=>afG (g,r,c,s) (nh h) hr) atM) (λxs bl r h=>by
  unfold aeT at h;split at h
  .rename_i ks bs b;obtain⟨aI,h2⟩:=aC h;refine⟨((b.length:Int)).toNat+1,?_⟩;show ax (_&&_) _=_;rw[aq (by rw[aI,Bool.true_and,Qa2];omega)];exact h2
  .cases h)
theorem ak2:∀ e∈QK,Nm e :=
 eR w16<|eR atn<|eL ar7<|eL asb<|eR aud<|eR amC<|eR anm<|eR ant<|eR anu<|eR anJ<|eR anY<|eR an7<|eR an8<|eR aoh<|eR auP<|eR w59<|eR w60<|eR alo<|eR atL<|eR aue<|eR auf<|eR aug<|eR auq<|eR anB<|eR anD<|eR anG<|eR an4<|eR atH<|eR auj<|eR aul<|eR aus<|eR aut<|eR auu<|eR atK<|eR at1<|eR aln<|eR w50<|eR w51<|λe h=>nomatch h
theorem akO:∀ e∈DY++K9++Nf++QK,Nm e:=λe h=>(List.mem_append.1 h).elim (acb e) (ak2 e)
theorem XM:K_=DY++K9++Nf++QK:=by kernel_rfl
theorem aar:∀ e∈K_,Nm e:=λe h=>akO e (XM ▸ h)
theorem uw:EX Tryz.prog G where
 mixed:=by kernel_rfl
 ty:=Bu
 each:=λf k ct s h=>aar (f,k,ct,s) (nh h)
 inl:=λf fn h=>Ha (f,fn) (nh h)
 cp:=NB
theorem own:ownKnob Tryz.prog.godebug=none:=by kernel_rfl
theorem laidOut:laidOutB Tryz.prog=true:=by kernel_rfl
end Go.Proofs.YtledffmjoegdeaaGreat
