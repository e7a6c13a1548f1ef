/- The table is right, and the laws. -/
import Derived.Test.YtpelamlfpffacaaGreatWalk1
import Derived.Test.YtpelamlfpffacaaGreatWalk2
import Derived.Test.YtpelamlfpffacaaGreatWalk3
import Derived.Shelf.SlicesE.Compact
import Derived.Test.YtpelamlfpffacaaGreatRows
set_option linter.all false
open List renaming forall_mem_cons→Zz
open Option renaming isSome_iff_exists→Zy
namespace Go.Proofs.YtpelamlfpffacaaGreat
open Go Go.Abs Go.Proofs
open Go.ChangeShapes Go.WideShapes Go.ChangeAt Go.RowKit Go.Lib
set_option maxRecDepth 100000
theorem YV:(List.range 520).map (fun t=>match (YU[t]?).join with | some _=>fl Tryz.prog t | none=>none)=YU:=by kernel_rfl
theorem ES:∀ t i,G.ty t=some i->fl Tryz.prog t=some i:=by
 intro t i h;have h1:(YU[t]?).join=some i:=h;have h2:YU[t]? = some (some i):=by
  cases hx:YU[t]? with
  | none=>rw[hx] at h1;cases h1
  | some x=>rw[hx] at h1;rw[show x=some i from h1]
 have h3:((List.range 520).map (fun t=>match (YU[t]?).join with | some _=>fl Tryz.prog t | none=>none))[t]? = some (some i):=by rw[YV];exact h2
 rw[List.getElem?_map] at h3;cases hr:(List.range 520)[t]? with
 | none=>rw[hr] at h3;cases h3
 | some y =>
  rw[hr] at h3;have hy:y=t:=by
   have:=(List.getElem?_eq_some_iff.1 hr).2;simpa using this.symm
  subst hy;simp only[Option.map_some,h1,Option.some.injEq] at h3;exact h3
theorem FG : ∀ e ∈ XE, Tryz.prog.funcs[e.1]? = some e.2 ∧ e.2.name ≠ "runtime.NumGoroutine" := by
 unfold XE;refine Zz.2 ⟨⟨Tryz.func28,by decide +kernel⟩,?_⟩;refine Zz.2 ⟨⟨Tryz.func29,by decide +kernel⟩,?_⟩;refine Zz.2 ⟨⟨Tryz.func33,by decide +kernel⟩,?_⟩;refine Zz.2 ⟨⟨Tryz.func34,by decide +kernel⟩,?_⟩;refine Zz.2 ⟨⟨Tryz.func37,by decide +kernel⟩,?_⟩;refine Zz.2 ⟨⟨Tryz.func38,by decide +kernel⟩,?_⟩;refine Zz.2 ⟨⟨Tryz.func43,by decide +kernel⟩,?_⟩;refine Zz.2 ⟨⟨Tryz.func44,by decide +kernel⟩,?_⟩;refine Zz.2 ⟨⟨Tryz.func54,by decide +kernel⟩,?_⟩;refine Zz.2 ⟨⟨Tryz.func69,by decide +kernel⟩,?_⟩;refine Zz.2 ⟨⟨Tryz.func86,by decide +kernel⟩,?_⟩;refine Zz.2 ⟨⟨Tryz.func137,by decide +kernel⟩,?_⟩;refine Zz.2 ⟨⟨Tryz.func202,by decide +kernel⟩,?_⟩;refine Zz.2 ⟨⟨Tryz.func237,by decide +kernel⟩,?_⟩;refine Zz.2 ⟨⟨Tryz.func10,by decide +kernel⟩,?_⟩;refine Zz.2 ⟨⟨Tryz.func35,by decide +kernel⟩,?_⟩;refine Zz.2 ⟨⟨Tryz.func67,by decide +kernel⟩,?_⟩;refine Zz.2 ⟨⟨Tryz.func83,by decide +kernel⟩,?_⟩;refine Zz.2 ⟨⟨Tryz.func141,by decide +kernel⟩,?_⟩;refine Zz.2 ⟨⟨Tryz.func172,by decide +kernel⟩,?_⟩;refine Zz.2 ⟨⟨Tryz.func13,by decide +kernel⟩,?_⟩;refine Zz.2 ⟨⟨Tryz.func109,by decide +kernel⟩,?_⟩;refine Zz.2 ⟨⟨Tryz.func128,by decide +kernel⟩,?_⟩;refine Zz.2 ⟨⟨Tryz.func149,by decide +kernel⟩,?_⟩;refine Zz.2 ⟨⟨Tryz.func62,by decide +kernel⟩,?_⟩;refine Zz.2 ⟨⟨Tryz.func148,by decide +kernel⟩,?_⟩;refine Zz.2 ⟨⟨Tryz.func39,by decide +kernel⟩,?_⟩;refine Zz.2 ⟨⟨Tryz.func343,by decide +kernel⟩,?_⟩;refine Zz.2 ⟨⟨Tryz.func135,by decide +kernel⟩,?_⟩;refine Zz.2 ⟨⟨Tryz.func30,by decide +kernel⟩,?_⟩;refine Zz.2 ⟨⟨Tryz.func8,by decide +kernel⟩,?_⟩;refine Zz.2 ⟨⟨Tryz.func84,by decide +kernel⟩,?_⟩;refine Zz.2 ⟨⟨Tryz.func139,by decide +kernel⟩,?_⟩;refine Zz.2 ⟨⟨Tryz.func88,by decide +kernel⟩,?_⟩;refine Zz.2 ⟨⟨Tryz.func89,by decide +kernel⟩,?_⟩;refine Zz.2 ⟨⟨Tryz.func90,by decide +kernel⟩,?_⟩;refine Zz.2 ⟨⟨Tryz.func91,by decide +kernel⟩,?_⟩;refine Zz.2 ⟨⟨Tryz.func92,by decide +kernel⟩,?_⟩;refine Zz.2 ⟨⟨Tryz.func93,by decide +kernel⟩,?_⟩;refine Zz.2 ⟨⟨Tryz.func134,by decide +kernel⟩,?_⟩;refine Zz.2 ⟨⟨Tryz.func136,by decide +kernel⟩,?_⟩;refine Zz.2 ⟨⟨Tryz.func87,by decide +kernel⟩,?_⟩;refine Zz.2 ⟨⟨Tryz.func53,by decide +kernel⟩,?_⟩;refine Zz.2 ⟨⟨Tryz.func40,by decide +kernel⟩,?_⟩;refine Zz.2 ⟨⟨Tryz.func15,by decide +kernel⟩,?_⟩;exact fun e h=>by cases h
theorem np{α:Type}{k:Nat}{x:α}:∀ {l:List (Nat×α)},look k l=some x->(k,x)∈l
 | [],h=>by cases h
 | (j,y)::r,h=>by
  simp only[look] at h;cases hb:Nat.beq j k with
  | false=>rw[hb] at h;exact List.mem_cons_of_mem _ (np h)
  | true=>rw[hb] at h;cases h;rw[Nat.eq_of_beq_eq_true hb];exact List.mem_cons_self ..
theorem y_{α:Type}{k m:Nat}{x:α}{r:List α}:∀ {l:List (Nat×Nat×List α)},HL k m l=x::r->(k,m,x::r)∈l
 | [],h=>by cases h
 | (j,i,y)::q,h=>by
  simp only[HL] at h;cases hb:Nat.beq j k with
  | false=>rw[hb] at h;exact List.mem_cons_of_mem _ (y_ h)
  | true =>
   rw[hb] at h;simp only[Qa6] at h;cases hc:Nat.beq i m with
   | false=>rw[hc] at h;exact List.mem_cons_of_mem _ (y_ h)
   | true=>rw[hc] at h;simp only[Qa6] at h;rw[Nat.eq_of_beq_eq_true hb,Nat.eq_of_beq_eq_true hc,h];exact List.mem_cons_self ..
theorem S5:(UQ.all fun e => !(Nat.beq e.2.1 9999998)||Nat.beq e.1 69)=true:=by kernel_rfl
def V7:Go.Shelf.Ren:=⟨fun | 43=>69 | n=>n,fun | 22=>36 | 23=>55 | 3=>3 | 4=>4 | 0=>0 | n=>n,fun | n=>n⟩
theorem V5:Go.Proofs.SlLaysE.n43 Tryz.prog V7:={
 mixed:=by kernel_rfl
 f43:=⟨Tryz.f69.name,by decide,Tryz.func69.trans (Qb5 some (by kernel_rfl))⟩
 t0:=Tryz.underlying0
 a0:=Tryz.isAgg0
 z0:=Tryz.sizeOf0
 v0:=Tryz.zeroValue0
 t3:=Tryz.underlying3
 a3:=Tryz.isAgg3
 z3:=Tryz.sizeOf3
 v3:=Tryz.zeroValue3
 t4:=Tryz.underlying4
 a4:=Tryz.isAgg4
 z4:=Tryz.sizeOf4
 v4:=Tryz.zeroValue4
 t22:=Tryz.underlying36
 a22:=Tryz.isAgg36
 z22:=Tryz.sizeOf36
 v22:=Tryz.zeroValue36
 a23:=Tryz.isAgg55
 z23:=Tryz.sizeOf55 }
theorem ae':O0 Tryz.prog 69:=by
 refine⟨fun fv w=> ?_,fun lR off cap d w hH h1 h2=> ?_⟩
 ·obtain ⟨c,hc⟩:=Zy.1 (show Tryz.f69.body.isSome=true from by kernel_rfl);have oQ : Tryz.f69.name ≠ "runtime.NumGoroutine" := by decide +kernel
  simp[callFunc,Tryz.func69,oQ,hc]
 ·exact AnyE.slices_Compact V5 (Value.int .u64) (fun _=>rfl) (EqlAt.intD _ _ .u64) (NeqAt.intD _ _ .u64) 0 Tryz.zeroValue55 lR off cap d w hH h1 h2
theorem Lz:∀ f x l,G.keep f 9999998=x::l->O0 Tryz.prog f:=by
 intro f x l h;have h1:=List.all_eq_true.1 S5 _ (y_ h);have e:f=69:=by simpa using h1
 subst e;exact ae'
theorem abL:∃ i0,Tryz.prog.info? 5=some i0/\i0.zero=some (.int .u8 0)/\i0.size=1/\i0.bytes=1:=by
 obtain⟨info,z,h1,h2,h3,h4,h5,_⟩:=bM (ES 5 _ (show G.ty 5=some ⟨1,1,.u8,[.u8 0],[.u8],[.u8]⟩ from by kernel_rfl));obtain⟨SM,ei,wv,xp,Nh,LM⟩:=jB (show Dm Tryz.prog 5=true from by kernel_rfl);exact⟨ei,wv,LM,xp,Nh⟩
set_option maxHeartbeats 2000000 in
theorem V3(i0:TypeInfo)(hi:Tryz.prog.info? 5=some i0)(yY:i0.zero=some (.int .u8 0))(hz1:i0.size=1)(SN:i0.bytes=1)(a:Addr)(n c:Nat)(xs:List Int)(w:World)(hx:xs.length=n)(Dc:n<=140737488355328)(hc:∀ i,i<n->w.cell? (a.add i)=some (.int .u8 (xs.getD i 0))) :
  Calls Tryz.prog 72 #[.slice (some a) n c] w fun e w'=>∃ v',e = .returned v'/\w'.ownsRow w.heap.size 5 1 v' n (xs.map (Value.int .u8))/\Below w.heap.size w w':=by
 have q22:∀ (w:World) (a:Option Addr) (n c n' c':Nat),(binOp .eql 62 (.slice a n c) (.slice none n' c')).run Tryz.prog w = .ok (.bool a.isNone) w:=fun w a n c n' c'=>Lib.run_eql_slice_nil w _ _ a n c n' c' Tryz.underlying62;have u22:∀ w,Sem.run Tryz.prog (underlying 62) w = .ok (TypeDesc.slice 5) w:=run_underlying Tryz.underlying62;have z5:∀ w,Sem.run Tryz.prog (Go.sizeOf 5) w = .ok 1 w:=fun w=>by simp[Go.sizeOf,typeInfo,hi,hz1]
 have A:Aside (∀ i,i<n->w.cell? (a.add i)=some (.int .u8 (xs.getD i 0))):=hc;clear hc
 go_enter Tryz.func72,Tryz.ntmps72
 go_wp2_with (at_builtin;refine wpList_append_own _ rfl _ _ 62 rfl w.heap.size 5 i0 (.int .u8 0) 1 1 Tryz.underlying62 hi yY hz1 SN rfl (by decide) _ _ _ rfl (World.ownsRow_made w #[] 0 (Nat.le_refl _) (Nat.zero_le _) rfl) a n c (xs.map (Value.int .u8)) rfl ?qc1 ?qc2 ?qc3 ?qc4 ?qc5 ?qc6 ?_)
 case qc1=>simp;omega
 case qc2 =>
  intro j u hj;have hjn:j<n:=by
   have:=(List.getElem?_eq_some_iff.1 hj).1;simp at this;omega
  refine Lib.cell?_alloc_some _ ?_;rw[A.out j hjn];have e:(xs.map (Value.int .u8))[j]? = some (Value.int .u8 (xs.getD j 0)):=by simp[List.getD,List.getElem?_eq_getElem (show j<xs.length by omega)]
  rw[e] at hj;exact hj
 case qc3=>intro u hu;obtain⟨x,_,rfl⟩:=List.mem_map.1 hu;rfl
 case qc4=>unfold maxLen;omega
 case qc5=>omega
 case qc6=>simp
 intro v' w1 Ap aa9 Nq
 go_wp2
 go_ret
 refine⟨v',rfl,by simpa using Ap,?_⟩;exact((Below.refl _ w).alloc (Nat.le_refl _) _).grown aa9 (by simp) (by intro k hk;simp[Value.ownBlock] at hk;omega)
set_option maxHeartbeats 1000000 in
theorem V2(n c:Nat)(w:World):Calls Tryz.prog 72 #[.slice none n c] w fun e w'=>e = .returned (.slice none 0 0)/\w'=w:=by
 have q22:∀ (w:World) (a:Option Addr) (n c n' c':Nat),(binOp .eql 62 (.slice a n c) (.slice none n' c')).run Tryz.prog w = .ok (.bool a.isNone) w:=fun w a n c n' c'=>Lib.run_eql_slice_nil w _ _ a n c n' c' Tryz.underlying62
 go_enter Tryz.func72,Tryz.ntmps72
 go_wp2
 go_ret
 exact⟨rfl,rfl⟩
theorem g72:rL Tryz.prog G 72 RY:=by
 obtain⟨i0,UG,yY,FD,Nd⟩:=abL;refine Ha (e:=5) (t:=62) ?_ (by kernel_rfl) V2 (fun a n c xs w h1 h2 h3=>V3 i0 UG yY FD Nd a n c xs w h1 h2 h3) ?_
 ·intro vs w;obtain ⟨c,hc⟩:=Zy.1 (show Tryz.f72.body.isSome=true from by kernel_rfl);have oQ : Tryz.f72.name ≠ "runtime.NumGoroutine" := by decide +kernel
  simp[callFunc,Tryz.func72,oQ,hc]
 ·intro xs bl r h;unfold RY at h;split at h
  ·rename_i n;obtain⟨h1,h2⟩:=aI h;cases h2;exact⟨n,rfl,Qa3 h1,rfl,rfl⟩
  ·cases h
theorem J2(a:Option Addr)(w:World):Calls Tryz.prog 117 #[.slice a 0 0,.int .i64 0] w fun e w'=>e = .returned (.slice a 0 0)/\w'=w:=by
 go_enter Tryz.func117,Tryz.ntmps117
 go_wp2
 go_ret
 exact⟨rfl,rfl⟩
set_option maxHeartbeats 4000000 in
theorem J3(i0:TypeInfo)(z:Value)(UG:Tryz.prog.info? 55=some i0)(yY:i0.zero=some z)(FD:i0.size=1)(Nd:i0.bytes=8)(Kc:z.cells.size=1)(a:Option Addr)(n:Nat)(w:World)(h0:0<n)(hn:n<=1000000000000):Calls Tryz.prog 117 #[.slice a 0 0,.int .i64 n] w fun e w' =>
   e = .returned (.slice (some ⟨w.heap.size,0,none⟩) 0 (grownCap w n 0 55)) /\
   w'=w.drew.alloc (.cells (#[]++Builtin.zeroCells z.cells n++Builtin.zeroCells z.cells (grownCap w n 0 55-n)) 55):=by
 have h1:¬ ((n:Int)<0):=by omega
 have h3:wrap64 ((n:Int))=(n:Int):=by unfold wrap64;omega
 have h4:(n:Int)>0:=by omega
 have hold:(Builtin.firstCells i0.size 0 (.slice a 0 0)).run Tryz.prog w.drew = .ok #[] w.drew:=by
  cases a with
  | none=>exact run_firstCells_none w.drew i0.size 0 0 0
  | some a=>exact run_firstCells_some w.drew i0.size 0 a 0 0 [] (by simp) (fun j v hj=>by simp at hj)
 have Ao:Builtin.nextslicecap (0+n) 0*i0.bytes<=281474976710656:=growslice_fits (by omega) (by rw[Nd];omega);have hrz:∀ ty,(Builtin.append_ #[36,3] ty #[.slice a 0 0,.int .i64 (n:Int)]).run Tryz.prog w =
   .ok (.slice (some ⟨w.heap.size,0,none⟩) n (grownCap w n 0 55)) (w.drew.alloc (.cells (#[]++Builtin.zeroCells z.cells n++Builtin.zeroCells z.cells (grownCap w n 0 55-n)) 55)):=fun ty=>by
  have h:=Lib.run_append_grow_zeros w 36 3 ty 55 i0 z .i64 .i64 Tryz.underlying36 Tryz.underlying3 UG yY a 0 0 [] hold n h0 (by omega) (by omega) (by omega) (by rw[Nd];omega) Ao;simpa using h
 clear hold Ao
 go_enter Tryz.func117,Tryz.ntmps117
 cases a with
 | none =>
  go_wp2_with (at_builtin;refine Lib.wpList_append_run _ rfl _ _ _ _ rfl _ _ rfl rfl _ _ (hrz _) ?_)
  all_goals (go_ret;exact⟨rfl,rfl⟩)
 | some a =>
  obtain⟨ab,ao,asp⟩:=a
  go_wp2_with (at_builtin;refine Lib.wpList_append_run _ rfl _ _ _ _ rfl _ _ rfl rfl _ _ (hrz _) ?_)
  all_goals (go_ret;exact⟨rfl,rfl⟩)
theorem afe:rL Tryz.prog G 117 IA:=by
 obtain⟨ei,ju⟩:=Zy.1 (show(G.ty 55).isSome=true from by kernel_rfl);obtain⟨i2,pg⟩:=Zy.1 (show(G.ty 36).isSome=true from by kernel_rfl);have q:(G.ty 55).map (fun i=>(i.size,i.bytes))=some (1,8)/\(G.ty 36).map (·.kind)=some (.slice 55 false):=⟨by kernel_rfl,by kernel_rfl⟩;rw[ju,pg] at q;obtain⟨q1,q2⟩:=q;simp only[Option.map_some,Option.some.injEq,Prod.mk.injEq] at q1 q2;obtain⟨hn,hm⟩:=q1;obtain⟨i0,z,UG,FD,Nd,yY,hof,Zt,_⟩:=bM (ES 55 _ ju);have Kc:z.cells.size=1:=by
  have:=(im (w:=(default:World)) (p:=fun _=>0) hof).len;rw[Zt,hn] at this;simpa using this
 refine Hb (e:=55) (t:=36) (cap:=fun w n=>grownCap w n 0 55) (cells:=fun w n => #[]++Builtin.zeroCells z.cells n++Builtin.zeroCells z.cells (grownCap w n 0 55-n)) ?_ (by kernel_rfl) pg q2 ju (by rw[hn];decide) J2 (fun a n w h1 h2=>J3 i0 z UG yY (FD.trans hn) (Nd.trans hm) Kc a n w h1 h2) ?_ ?_
 ·intro vs w;obtain ⟨c,hc⟩:=Zy.1 (show Tryz.f117.body.isSome=true from by kernel_rfl);have oQ : Tryz.f117.name ≠ "runtime.NumGoroutine" := by decide +kernel
  simp[callFunc,Tryz.func117,oQ,hc]
 ·intro w n h1 h2;have Dh:=grownCap_ge w n 0 55;refine⟨Dh,grownCap_le_maxLen w n 0 55 (by unfold maxLen;omega),?_⟩;have hz:∀ k,(Builtin.zeroCells z.cells k).size=k*z.cells.size:=fun k=>by simp[Builtin.zeroCells]
  rw[Array.size_append,Array.size_append,hz,hz,Kc,hn];simp;omega
 ·intro xs bl r h;unfold IA at h;split at h
  ·rename_i n;obtain⟨h1,h2⟩:=aI h;simp only[Bool.and_eq_true,Qa2] at h1;cases h2;exact⟨n,rfl,h1.1,h1.2,rfl,rfl⟩
  ·cases h
abbrev SH(e:Nat×Nat×List CT×Sp):Prop:=rL Tryz.prog G e.1 e.2.2.2\/Ba Tryz.prog G e.1 e.2.1 e.2.2.2
noncomputable def XQ:List (Nat×Nat×List CT×Sp):=U2.map (fun e=>(e.1,e.2.1,e.2.2.1,ownSp G0 ow e.2.1 e.1 e.2.2.2))
theorem XR:U2.map (fun e=>Tryz.prog.funcs[e.1]?)=U2.map (fun e=>some e.2.2.2):=by kernel_rfl
theorem XS:U2.map (fun e=>G.rts e.1)=U2.map (fun e=>some e.2.2.2.resultTypes.toList):=by kernel_rfl
theorem agY:∀ e∈XQ,SH e:=by
 intro e he;obtain⟨x,hx,rfl⟩:=List.mem_map.1 he;have h1:=List.map_inj_left.1 XR x hx;have h2:=List.map_inj_left.1 XS x hx;refine .inr (Kv fw h1 (fun e=> ?_) h2);have h0:=UZ;rw[Array.all_eq_true_iff_forall_mem] at h0;have:=h0 x.2.2.2 (Array.mem_of_getElem? h1);rw[e] at this;simp at this
theorem agV:∀ e∈Jo,SH e :=
 each (.inr w19) <| each (.inr w25) <| each (.inr w26) <| each (.inr w36) <| each (.inr w48) <| each (.inr w66) <| each (.inr w71) <| each (.inl g72) <| each (.inr w74) <| each (.inr ag9) <| each (.inl afe) <| each (.inr ahi) <| each (.inr ahk) <| each (.inr ahl) <| each (.inr ahq) <| each (.inr ahu) <| each (.inr ahv) <| each (.inr ahC) <| each (.inr ahH) <| each (.inr ahI) <| each (.inr ahJ) <| each (.inr ahM) <| each (.inr ahN) <| each (.inr ahQ) <| each (.inr ahS) <| each (.inr ahT) <| each (.inr ahU) <| each (.inr ahV) <| each (.inr ah7) <| each (.inr ah_) <| each (.inr aiu) <| each (.inr aiw) <| each (.inr aiz) <| each (.inr aiA) <| each (.inr w42) <| each (.inr w60) <| each (.inr ahb) <| each (.inr ahc) <| each (.inr ahd) <| each (.inr ahf) <| each (.inr ahj) <| each (.inr ahm) <| each (.inr ahn) <| each (.inr aho) <| each (.inr ahr) <| each (.inr ahs) <| each (.inr ahw) <| each (.inr ahE) <| each (.inr aik) <| each (.inr aip) <| each (.inr aiq) <| each (.inr aiB) <| each (.inr w27) <| each (.inr w73) <| each (.inr w94) <| each (.inr ag8) <| each (.inr ag_) <| each (.inr ahg) <| each (.inr ahp) <| each (.inr ahy) <| each (.inr ahD) <| each (.inr ahF) <| each (.inr ahG) <| each (.inr ahO) <| each (.inr ah5) <| each (.inr ah6) <| each (.inr aih) <| each (.inr aij) <| each (.inr ail) <| each (.inr air) <| each (.inr ais) <| each (.inr aiv) <| each (.inr aix) <| each (.inr aiy) <| each (.inr w50) <| each (.inr w70) <| each (.inr w96) <| each (.inr w97) <| each (.inr ag6) <| each (.inr ag7) <| each (.inr aht) <| each (.inr ahz) <| each (.inr ahA) <| each (.inr ahP) <| each (.inr ah9) <| each (.inr aif) <| each (.inr aii) <| each (.inr aim) <| each (.inr ain) <| each (.inr aio) <| each (.inr ait) <| each (.inr w47) <| each (.inr w49) <| each (.inr ahR) <| each (.inr ahW) <| each (.inr ah0) <| each (.inr ah1) <| each (.inr ah2) <| each (.inr ah3) <| each (.inr ah4) <| each (.inr ah8) <| each (.inr aia) <| each (.inr aib) <| each (.inr aic) <| each (.inr aid) <| each (.inr aie) <| each (.inr w46) <| each (.inr ahB) <| each (.inr ahX) <| each (.inr ahY) <| each (.inr ahZ) <| each (.inr ah') <| fun e h=>nomatch h
theorem lV:∀ e∈XQ++Jo,SH e:=fun e h=>(List.mem_append.1 h).elim (agY e) (agV e)
theorem agu:∀ e∈Jp,e.2.1<7->SH e :=
 QM (A:=XQ++Jo) (B:=K'++OH) (by kernel_rfl) lV (by kernel_rfl)
theorem aff:rL Tryz.prog G 118 EI :=
 yT (sn:=vA) (zx (by kernel_rfl) ES (fun f fn h=>FG (f,fn) (np h)) Lz (f:=118) (k:=7) (ct:=[.sl 1,.int .i64,.int .i64,.int .i64]) (s':=EI) rfl (fun g r c s h hr=>agu (g,r,c,s) (np h) hr) aha) (fun xs bl r h=>by
  unfold EI at h;split at h
  ·rename_i a b l els;obtain⟨aO,h2⟩:=aI h;refine⟨(b-a).toNat+1,?_⟩;show aA (_&&_) _=_;rw[ae (by rw[aO,Bool.true_and,Qa2];omega)];exact h2
  ·cases h)
theorem agW:∀ e∈K',SH e :=
 each (.inr w61) <| each (.inl aff) <| each (.inr ahx) <| each (.inr ahL) <| fun e h=>nomatch h
theorem XX:∀ e∈XQ++Jo++K',SH e:=fun e h=>(List.mem_append.1 h).elim (lV e) (agW e)
theorem ab4:∀ e∈Jp,e.2.1<8->SH e :=
 QM (A:=XQ++Jo++K') (B:=OH) (by kernel_rfl) XX (by kernel_rfl)
theorem afg:rL Tryz.prog G 133 Mo :=
 yT (sn:=EG) (zx (by kernel_rfl) ES (fun f fn h=>FG (f,fn) (np h)) Lz (f:=133) (k:=8) (ct:=[.other]) (s':=Mo) rfl (fun g r c s h hr=>ab4 (g,r,c,s) (np h) hr) ahh) (fun xs bl r h=>by
  unfold Mo at h;split at h
  ·rename_i ks bs;obtain⟨aO,h2⟩:=aI h;refine⟨((Kerb.fb (Kerb.kn ks bs):Int)).toNat+1,?_⟩;show aA (_&&_) _=_;rw[ae (by rw[aO,Bool.true_and,Qa2];omega)];exact h2
  ·cases h)
theorem afi:rL Tryz.prog G 201 Mp :=
 yT (sn:=EH) (zx (by kernel_rfl) ES (fun f fn h=>FG (f,fn) (np h)) Lz (f:=201) (k:=8) (ct:=[.other,.eL]) (s':=Mp) rfl (fun g r c s h hr=>ab4 (g,r,c,s) (np h) hr) ahK) (fun xs bl r h=>by
  unfold Mp at h;split at h
  ·rename_i ks bs b;obtain⟨aO,h2⟩:=aI h;refine⟨((b.length:Int)).toNat+1,?_⟩;show aA (_&&_) _=_;rw[ae (by rw[aO,Bool.true_and,Qa2];omega)];exact h2
  ·cases h)
theorem agX:∀ e∈OH,SH e :=
 each (.inr w31) <| each (.inr w68) <| each (.inl afg) <| each (.inl afi) <| each (.inr w45) <| each (.inr w85) <| each (.inr ag') <| each (.inr ahe) <| fun e h=>nomatch h
theorem agC:∀ e∈XQ++Jo++K'++OH,SH e:=fun e h=>(List.mem_append.1 h).elim (XX e) (agX e)
theorem T_:Jp=XQ++Jo++K'++OH:=by kernel_rfl
theorem VS:∀ e∈Jp,SH e:=fun e h=>agC e (T_ ▸ h)
theorem uc:DM Tryz.prog G where
 mixed:=by kernel_rfl
 ty:=ES
 each:=fun f k ct s h=>VS (f,k,ct,s) (np h)
 inl:=fun f fn h=>FG (f,fn) (np h)
 cp:=Lz
theorem own:ownKnob Tryz.prog.godebug=none:=by kernel_rfl
theorem laidOut:laidOutB Tryz.prog=true:=by kernel_rfl
end Go.Proofs.YtpelamlfpffacaaGreat
