/- Structs held against each other. -/
import Derived.Test.YtmipfdjcnkljnaaAbsOps8
import Derived.Laws.StructEq
open List renaming eq_nil_of_length_eq_zero→Zz,map_cons→Zx
open Nat renaming zero_le→Zy
namespace Go.Abs
set_option linter.unusedVariables false
section
variable {P:Program} {w:World} {p:Prot} {g:Nat→Value} {u:Nat→Prop}
theorem andO_inv {a b:Option Bool} {c:Bool} (h:andO a b=some c):∃ c1 c2,a=some c1∧b=some c2∧c=(c1&&c2):=by
 unfold andO at h
 split at h
 ·split at h
  ·cases h;exact ⟨_,_,rfl,rfl,rfl⟩
  ·cases h
 ·cases h
theorem cellsEq_cons {x y:AV} {xs ys:List AV} {c:Bool} (h:cellsEq (x::xs) (y::ys)=some c):∃ c1 c2,cellEq x y=some c1∧cellsEq xs ys=some c2∧c=(c1&&c2):=by
 cases xs with
 | nil =>
  cases ys with
  | nil=>simp only [cellsEq] at h;exact ⟨c,true,h,rfl,by simp⟩
  | cons y' ys=>simp only [cellsEq] at h;exact andO_inv h
 | cons x' xs =>
  cases ys with
  | nil=>simp only [cellsEq] at h;obtain ⟨_,_,_,h2,_⟩:=andO_inv h;cases h2
  | cons y' ys=>simp only [cellsEq] at h;exact andO_inv h
theorem cellsEq_length:∀ {xs ys:List AV} {c:Bool},cellsEq xs ys=some c→xs.length=ys.length
 | [],[],_,_=>rfl
 | [],y::ys,_,h=>by simp [cellsEq] at h
 | x::xs,[],_,h=>by cases xs<;>simp [cellsEq] at h
 | x::xs,y::ys,_,h=>by
  obtain ⟨_,_,_,h2,_⟩:=cellsEq_cons h
  simp [cellsEq_length h2]
theorem cellsEq_split:∀ (n:Nat) {xs ys:List AV} {c:Bool},cellsEq xs ys=some c→∃ c1 c2,cellsEq (xs.take n) (ys.take n)=some c1∧cellsEq (xs.drop n) (ys.drop n)=some c2∧c=(c1&&c2)
 | 0,xs,ys,c,h=>⟨true,c,by simp [cellsEq],by simpa using h,by simp⟩
 | n+1,[],[],c,h=>⟨true,c,by simp [cellsEq],by simpa using h,by simp⟩
 | n+1,[],y::ys,c,h=>by simp [cellsEq] at h
 | n+1,x::xs,[],c,h=>by cases xs<;>simp [cellsEq] at h
 | n+1,x::xs,y::ys,c,h=>by
  obtain ⟨a,b,h1,h2,rfl⟩:=cellsEq_cons h
  obtain ⟨c1,c2,h3,h4,rfl⟩:=cellsEq_split n h2
  refine ⟨a&&c1,c2,?_,by simpa using h4,by simp [Bool.and_assoc]⟩
  simp only [List.take_succ_cons]
  have e:cellsEq (x::xs.take n) (y::ys.take n)=andO (cellEq x y) (cellsEq (xs.take n) (ys.take n)):=by
   cases hx:xs.take n with
   | nil =>
    cases hy:ys.take n with
    | nil=>simp [cellsEq,h1,andO]
    | cons=>rw [hx,hy] at h3;simp [cellsEq] at h3
   | cons=>cases hy:ys.take n<;>simp only [cellsEq]
  rw [e,h1,h3]
  rfl
def mkV (agg:Bool) (xs:List Value):Value:=if agg then .agg xs.toArray else xs.headD undef
def aggT (P:Program) (t:Nat):Bool:=match P.underlying t with | some (.struct _)=>true | some (.array ..)=>true | _=>false
theorem run_isAgg' {t:Nat} {d:TypeDesc} (h:P.underlying t=some d):(isAgg t).run P w = .ok (aggT P t) w:=by
 unfold isAgg aggT
 rw [h]
 cases d<;>simp [run_underlying h]
theorem run_part {t:Nat} {d:TypeDesc} {info:TypeInfo} (hu:P.underlying t=some d) (hi:P.info? t=some info) (xs:List Value) (off:Nat) (hfit:off+info.size≤xs.length) (hpos:aggT P t=false→0<info.size) :
  (part t xs.toArray off).run P w = .ok (mkV (aggT P t) ((xs.drop off).take info.size)) w:=by
 unfold part
 cases ha:aggT P t with
 | true =>
  simp [run_isAgg' hu,ha,run_sizeOf hi,mkV,List.extract_eq_take_drop]
 | false =>
  have hlt:off<xs.length:=by have:=hpos ha;omega
  obtain ⟨n,hn⟩:∃ n,info.size=n+1:=⟨info.size-1,by have:=hpos ha;omega⟩
  rw [List.drop_eq_getElem_cons hlt,hn,List.take_succ_cons]
  simp [run_isAgg' hu,ha,mkV,hlt]
theorem ctMatch_append:∀ {a b:List CT} {vs:List AV},ctMatch (a++b) vs=true→ctMatch a (vs.take a.length)=true∧ctMatch b (vs.drop a.length)=true
 | [],b,vs,h=>⟨by simp [ctMatch],by simpa using h⟩
 | c::a,b,[],h=>by cases c<;>simp [ctMatch] at h
 | c::a,b,v::vs,h=>by
  cases c<;>cases v<;>simp [ctMatch] at h
  ·obtain ⟨h1,h2⟩:=h
   obtain ⟨i1,i2⟩:=ctMatch_append h2
   exact ⟨by simp [ctMatch,h1,i1],by simpa using i2⟩
  all_goals
   obtain ⟨i1,i2⟩:=ctMatch_append h
   exact ⟨by simp [ctMatch,i1],by simpa using i2⟩
theorem ctMatch_length:∀ {a:List CT} {vs:List AV},ctMatch a vs=true→vs.length=a.length
 | [],[],_=>rfl
 | [],v::vs,h=>by simp [ctMatch] at h
 | c::a,[],h=>by cases c<;>simp [ctMatch] at h
 | c::a,v::vs,h=>by
  cases c<;>cases v<;>simp [ctMatch] at h
  ·simp [ctMatch_length h.2]
  all_goals simp [ctMatch_length h]
theorem joinC_inv {a:Option (List CT)} {i:Option TypeInfo} {b:Option (List CT)} {r:List CT} (h:joinC a i b=some r):∃ x j y,a=some x∧i=some j∧b=some y∧x.length=j.size∧r=x++y:=by
 unfold joinC at h
 split at h
 ·split at h
  ·split at h
   ·split at h
    ·cases h;exact ⟨_,_,_,rfl,rfl,rfl,by assumption,rfl⟩
    ·cases h
   ·cases h
  ·cases h
 ·cases h
theorem run_eqFields {D q:Nat} {xs ys:List Value} (hf:∀ (t o:Nat) (info:TypeInfo) (cts:List CT) (as bs:List AV) (c:Bool),P.info? t=some info→eqCts P D t=some cts→cts.length=info.size→ctMatch cts as=true→Cells (RepC w p g u) ((xs.drop o).take info.size) as→Cells (RepC w p g u) ((ys.drop o).take info.size) bs→cellsEq as bs=some c →
   (Op.equalIn (D+q) t (mkV (aggT P t) ((xs.drop o).take info.size)) (mkV (aggT P t) ((ys.drop o).take info.size))).run P w = .ok c w) :
  ∀ (fs:List Field) (o:Nat) (cts:List CT),layoutOK P fs o=true→fs.foldr (fun f acc=>joinC (eqCts P D f.type) (P.info? f.type) acc) (some [])=some cts→∀ (as bs:List AV) (c:Bool),ctMatch cts as=true→Cells (RepC w p g u) (xs.drop o) as→Cells (RepC w p g u) (ys.drop o) bs→cellsEq as bs=some c→o≤xs.length→o≤ys.length →
  (Op.eqFields (D+q) xs.toArray ys.toArray fs).run P w = .ok c w
 | [],o,cts,hl,he,as,bs,c,hm,hx,hy,hc,ho,ho'=>by
  simp at he
  subst he
  have:as=[]:=Zz (by simpa using ctMatch_length hm)
  subst this
  have hb:=cellsEq_length hc
  have:bs=[]:=Zz (by simpa using hb.symm)
  subst this
  simp [cellsEq] at hc
  subst hc
  rfl
 | f::fs,o,cts,hl,he,as,bs,c,hm,hx,hy,hc,ho,ho'=>by
  simp only [layoutOK,Bool.and_eq_true,beq_iff_eq,bne_iff_ne] at hl
  obtain ⟨⟨hoff,hname⟩,hrest⟩:=hl
  rw [List.foldr_cons] at he
  obtain ⟨c1s,info,c2s,he1,hinfo,he2,hcl,rfl⟩:=joinC_inv he
  rw [hinfo] at hrest
  simp only [Bool.and_eq_true] at hrest
  obtain ⟨hsz0,hrest⟩:=hrest
  have hsz1:0<info.size:=Nat.le_of_ble_eq_true hsz0
  obtain ⟨hm1,hm2⟩:=ctMatch_append hm
  rw [hcl] at hm1 hm2
  have hml:=ctMatch_length hm
  simp only [List.length_append] at hml
  obtain ⟨c1,c2,h1,h2,rfl⟩:=cellsEq_split info.size hc
  have hxl:xs.length-o=as.length:=by have:=hx.len;simpa using this
  have hyl:ys.length-o=bs.length:=by have:=hy.len;simpa using this
  have hab:=cellsEq_length hc
  have hd:∃ d,P.underlying f.type=some d:=by
   cases hu:P.underlying f.type with
   | some d=>exact ⟨d,rfl⟩
   | none=>cases D<;>simp [eqCts,hu] at he1
  obtain ⟨d,hu⟩:=hd
  have hx1:=hx.take info.size
  have hy1:=hy.take info.size
  have h3:=hf f.type o info c1s _ _ c1 hinfo he1 hcl hm1 hx1 hy1 h1
  have hpx:=run_part (P:=P) (w:=w) hu hinfo xs o (by omega) (fun _=>hsz1)
  have hpy:=run_part (P:=P) (w:=w) hu hinfo ys o (by omega) (fun _=>hsz1)
  have hx2:=hx.drop info.size
  have hy2:=hy.drop info.size
  rw [List.drop_drop] at hx2 hy2
  have ih:=run_eqFields hf fs (o+info.size) c2s hrest he2 _ _ c2 hm2 hx2 hy2 h2 (by omega) (by omega)
  simp only [Op.eqFields,hname,ne_eq,not_false_eq_true,if_true,hoff,Sem.run_bind,hpx,hpy,Result.andThen_ok,h3]
  cases c1
  ·simp
  ·simpa using ih
theorem ctInt_match {k:IntKind} {as:List AV} (h:ctMatch [ctInt k] as=true):(∃ n,as=[.int k n])∨(k = .u8∧∃ b,as=[.u8 b]):=by
 cases as with
 | nil=>cases k<;>simp [ctInt,ctMatch] at h
 | cons a r =>
  have hl:=ctMatch_length h
  have:r=[]:=Zz (by simpa using hl)
  subst this
  cases k<;>cases a<;>simp [ctInt,ctMatch] at h<;>first | (subst h;exact .inl ⟨_,rfl⟩) | exact .inr ⟨rfl,_,rfl⟩
theorem run_equal_cells {q:Nat}:∀ (D:Nat) (t:Nat) (info:TypeInfo) (cts:List CT),P.info? t=some info→eqCts P D t=some cts→∀ {xs ys:List Value} {as bs:List AV} {c:Bool},ctMatch cts as=true→Cells (RepC w p g u) xs as→Cells (RepC w p g u) ys bs→cellsEq as bs=some c →
  (Op.equalIn (D+q) t (mkV (aggT P t) xs) (mkV (aggT P t) ys)).run P w = .ok c w
 | 0,t,info,cts,hi,he,xs,ys,as,bs,c,hm,hx,hy,hc=>by simp [eqCts] at he
 | D+1,t,info,cts,hi,he,xs,ys,as,bs,c,hm,hx,hy,hc=>by
  have hD:D+1+q=(D+q)+1:=by omega
  have one:∀ (a b:AV),as=[a]→bs=[b]→∃ x y,xs=[x]∧ys=[y]∧RepC w p g u x a∧RepC w p g u y b∧cellEq a b=some c:=by
   rintro a b rfl rfl
   obtain ⟨x,xs',rfl,hxa,hx'⟩:=hx.uncons
   obtain ⟨y,ys',rfl,hyb,hy'⟩:=hy.uncons
   have e1:=hx'.nil_iff
   have e2:=hy'.nil_iff
   subst e1;subst e2
   exact ⟨x,y,rfl,rfl,hxa,hyb,by simpa only [cellsEq] using hc⟩
  have hbl:∀ a,as=[a]→∃ b,bs=[b]:=fun a ha=>by
   subst ha
   have:=cellsEq_length hc
   exact List.length_eq_one_iff.1 this.symm
  unfold eqCts at he
  split at he
  ·rename_i k i hu hi'
   split at he
   ·cases he
    have hag:aggT P t=false:=by simp [aggT,hu]
    have ha:∃ a,as=[a]:=by rcases ctInt_match hm with ⟨n,h⟩ | ⟨_,b,h⟩<;>exact ⟨_,h⟩
    obtain ⟨a,ha⟩:=ha
    obtain ⟨b,hb⟩:=hbl a ha
    obtain ⟨x,y,rfl,rfl,hxa,hyb,hce⟩:=one a b ha hb
    rw [hag]
    simp only [mkV,Bool.false_eq_true,if_false,List.headD_cons]
    rcases cellEq_inv hxa.v hyb.v hce with ⟨k',n,m,rfl,rfl,e⟩ | ⟨s,r,rfl,rfl,e⟩ | ⟨s,r,rfl,rfl,e⟩
    ·rw [hD,run_equalIn_int w _ t k' _ n m hu,e]
    ·subst ha
     rcases ctInt_match hm with ⟨n,h⟩ | ⟨_,b,h⟩
     ·cases h;have h2:=hxa.v.int;cases h2.1
     ·cases h;have h2:=hxa.v.u8;cases h2
    ·subst ha
     rcases ctInt_match hm with ⟨n,h⟩ | ⟨_,b,h⟩
     ·cases h;have h2:=hxa.v.int;cases h2.1
     ·cases h;have h2:=hxa.v.u8;cases h2
   ·cases he
  ·rename_i i hu hi'
   split at he
   ·cases he
    have hag:aggT P t=false:=by simp [aggT,hu]
    have ha:∃ a,as=[.bool a]:=by
     cases as with
     | nil=>simp [ctMatch] at hm
     | cons a r =>
      have hl:=ctMatch_length hm
      have:r=[]:=Zz (by simpa using hl)
      subst this
      cases a<;>simp [ctMatch] at hm
      exact ⟨_,rfl⟩
    obtain ⟨a,ha⟩:=ha
    obtain ⟨b,hb⟩:=hbl _ ha
    obtain ⟨x,y,rfl,rfl,hxa,hyb,hce⟩:=one _ b ha hb
    rw [hag]
    simp only [mkV,Bool.false_eq_true,if_false,List.headD_cons]
    have hxe:=hxa.v.bool
    subst hxe
    rcases cellEq_inv hxa.v hyb.v hce with ⟨k',n,m,h,_,e⟩ | ⟨s,r,h,rfl,e⟩ | ⟨s,r,h,_,e⟩
    ·cases h
    ·cases h;rw [hD,run_equalIn_bool w _ t _ r hu,e]
    ·cases h
   ·cases he
  ·rename_i i hu hi'
   split at he
   ·cases he
    have hag:aggT P t=false:=by simp [aggT,hu]
    have ha:∃ a,as=[.str a]:=by
     cases as with
     | nil=>simp [ctMatch] at hm
     | cons a r =>
      have hl:=ctMatch_length hm
      have:r=[]:=Zz (by simpa using hl)
      subst this
      cases a<;>simp [ctMatch] at hm
      exact ⟨_,rfl⟩
    obtain ⟨a,ha⟩:=ha
    obtain ⟨b,hb⟩:=hbl _ ha
    obtain ⟨x,y,rfl,rfl,hxa,hyb,hce⟩:=one _ b ha hb
    rw [hag]
    simp only [mkV,Bool.false_eq_true,if_false,List.headD_cons]
    obtain ⟨s0,hxe,hs0⟩:=hxa.v.str
    subst hxe
    rcases cellEq_inv hxa.v hyb.v hce with ⟨k',n,m,h,_,e⟩ | ⟨s,r,h,_,e⟩ | ⟨s,r,h,rfl,e⟩
    ·cases h
    ·cases h
    ·cases h;rw [hD,run_equalIn_string w _ t _ r hu,Lib.toList_data,Lib.toList_data,e]
   ·cases he
  ·rename_i fs i hu hi'
   split at he
   ·rename_i hcond
    have hfo:P.fieldsOf t=fs:=by simp [Program.fieldsOf,hu]
    have hag:aggT P t=true:=by simp [aggT,hu]
    rw [hag]
    simp only [mkV,if_true]
    rw [hD,run_equalIn_struct w (D+q) t _ _ (by rw [hfo];exact hu) hcond.1,hfo]
    exact run_eqFields (fun t o inf cts as bs c h1 h2 _ h4 h5 h6 h7=>run_equal_cells D t inf cts h1 h2 h4 h5 h6 h7) fs.toList 0 cts hcond.2 he as bs c hm (by simpa using hx) (by simpa using hy) hc (Zy _) (Zy _)
   ·cases he
  ·cases he
theorem doBin_agg {op:BinOp} {cs:List AV} {b v:AV} (h:doBin op (.agg cs) b=some v):∃ bs c,b = .agg bs∧cellsEq cs bs=some c∧((op = .eql∧v = .bool c)∨(op = .neq∧v = .bool !c)):=by
 cases b with
 | agg bs =>
  cases op<;>simp only [doBin,intsOf] at h<;>try (cases h;done)
  ·cases hc:cellsEq cs bs with
   | none=>simp [hc] at h
   | some c=>simp [hc] at h;exact ⟨bs,c,rfl,hc,.inl ⟨rfl,h.symm⟩⟩
  ·cases hc:cellsEq cs bs with
   | none=>simp [hc] at h
   | some c=>simp [hc] at h;exact ⟨bs,c,rfl,hc,.inr ⟨rfl,h.symm⟩⟩
 | _=>cases op<;>simp [doBin,intsOf,cellEq] at h
theorem sim_eqAgg {t:Nat} {i:TI} (hi:mkTI P t=some i) {x y:Value} {cs:List AV} {b:AV} {op:BinOp} {v:AV} (hx:RepV w p g u x (.agg cs)) (hy:RepV w p g u y b) (hm:ctMatch i.eqc cs=true) (hne:i.eqc≠[]) (hk:isAggK i.kind=true) (h:doBin op (.agg cs) b=some v) (o1 o2:Operand) :
  ∃ v',(do eqGuard op t o1 o2 x y;binOp op t x y:Sem Value).run P w = .ok v' w∧RepI w p v' v:=by
 obtain ⟨info,z,a1,a2,a3,a4,a5,a6,a7,a8,a9,a10⟩:=mkTI_info hi
 have hguard:P.eqGuardType P.depth t=false:=by
  cases hg:P.eqGuardType P.depth t with
  | false=>rfl
  | true=>simp [hg] at a10;exact absurd a10 hne
 rw [hguard] at a10
 simp only [if_true] at a10
 cases hec:eqCts P 20 t with
 | none=>simp [hec] at a10;exact absurd a10 hne
 | some cts =>
  rw [hec] at a10
  simp only [Option.getD_some] at a10
  rw [a10] at hm
  obtain ⟨bs,c,rfl,hc,hop⟩:=doBin_agg h
  obtain ⟨xa,rfl,hcx⟩:=hx.agg
  obtain ⟨ya,rfl,hcy⟩:=hy.agg
  have hag:aggT P t=true:=by
   cases hkk:i.kind with
   | struct fs=>rw [hkk] at a8;obtain ⟨fields,hu,_⟩:=kind_struct a8;simp [aggT,hu]
   | arr n e b=>rw [hkk] at a8;simp [aggT,(kind_arr a8).1]
   | _=>rw [hkk] at hk;simp [isAggK] at hk
  have hrun:=run_equal_cells (P:=P) (q:=9980) 20 t info cts a1 hec hm hcx hcy hc
  rw [hag] at hrun
  simp only [mkV,if_true] at hrun
  rcases hop with ⟨rfl,rfl⟩ | ⟨rfl,rfl⟩
  ·refine ⟨_,?_,.bool⟩
   rw [Sem.run_bind,run_eqGuard_agg w .eql t o1 o2 xa ya hguard,Result.andThen_ok,run_eql_struct,show (10000:Nat)=20+9980 from rfl]
   simp only [Array.toArray_toList] at hrun
   rw [hrun];rfl
  ·refine ⟨_,?_,.bool⟩
   rw [Sem.run_bind,run_eqGuard_agg w .neq t o1 o2 xa ya hguard,Result.andThen_ok,run_neq_struct,show (10000:Nat)=20+9980 from rfl]
   simp only [Array.toArray_toList] at hrun
   rw [hrun];rfl
end
end Go.Abs
/- Calls. -/
namespace Go.Abs
set_option linter.unusedVariables false
def CallsX (P:Program) (f:FuncId) (vals:Array Value) (w:World) (R:Value→World→Prop):Prop :=
 ((callFunc f vals).run P w = .ok (.enter f vals) w∧Calls P f vals w fun e w'=>∃ v,e = .returned v∧R v w') ∨
 ∃ v w',(callFunc f vals).run P w = .ok (.value v) w'∧R v w'
structure Kept (M:Nat→Prop) (w:World) (p:Prot) (w':World) (p':Prot):Prop where
 os:w'.os=w.os
 tape:w'.tape=w.tape
 output:w'.output=w.output
 size:w.heap.size≤w'.heap.size
 block:∀ β,β<w.heap.size→¬ M β→w'.heap[β]? = w.heap[β]?
 prot:∀ β,β<w.heap.size→p' β=p β
 newp:∀ β,w'.heap.size≤β→p' β=0
def NewP (w:World) (p:Prot):Prop:=∀ β,w.heap.size≤β→p β=0
def ArgRep (w:World) (p:Prot) (bk:Nat→Nat) (blks:List (Nat×List AV)) (v:Value) (a:AV):Prop:=RepO w p v a∨∃ j cs,(j,cs)∈blks∧a = .ptr j 0∧v = .pointer (some ⟨bk j,0,none⟩)
structure BlksIn (w:World) (p:Prot) (bk:Nat→Nat) (blks:List (Nat×List AV)):Prop where
 each:∀ j cs,(j,cs)∈blks→∃ c e,w.heap[bk j]? = some (.cells c e (0,0))∧Cells (RepI w p) c.toList cs∧p (bk j)=0
 keys:(blks.map (·.1)).Nodup
 inj:∀ j j' cs cs',(j,cs)∈blks→(j',cs')∈blks→bk j=bk j'→j=j'
def Res1 (E:Env) (B:Nat) (w:World) (p:Prot) (ty:Nat) (v:Value) (a:AV):Prop :=
 RepO w p v a ∨
 (∃ i e l,E.ty ty=some i∧i.kind = .slice e true∧a = .ownB l∧RowOK w B e 1 v l.length (l.map u8v)∧∀ β,vblk v=some β→p β=0) ∨
 (∃ i e ei l vs,E.ty ty=some i∧i.kind = .slice e false∧E.ty e=some ei∧a = .ownL l∧0<ei.size∧(∀ x∈l,x.cells.length=ei.size)∧RowOK w B e ei.size v l.length vs∧Cells (RepI w p) vs (l.flatMap AV.cells)∧∀ β,vblk v=some β→p β=0) ∨
 (∃ i fs j e ei arr cs l y vs,E.ty ty=some i∧i.kind = .struct fs∧slAt E.ty fs=some (j,e,ei)∧v = .agg arr∧a = .agg cs∧cs[j]? = some (.ownL l)∧arr.toList.length=cs.length∧arr.toList[j]? = some y∧0<ei.size∧(∀ x∈l,x.cells.length=ei.size)∧RowOK w B e ei.size y l.length vs∧Cells (RepI w p) vs (l.flatMap AV.cells)∧(∀ β,vblk y=some β→p β=0)∧∀ (m:Nat) (x:Value) (c:AV),m≠j→arr.toList[m]? = some x→cs[m]? = some c→RepI w p x c)
def ResRep (E:Env) (B:Nat) (w:World) (p:Prot) (rt:List Nat) (v:Value) (r:AV):Prop :=
 match rt with
 | [ty]=>Res1 E B w p ty v r
 | rt=>∃ arr as,v = .tuple arr∧r = .tup as∧arr.size=rt.length∧as.length=rt.length∧(∀ x a ty,arr[0]? = some x→as[0]? = some a→rt[0]? = some ty→Res1 E B w p ty x a)∧∀ j x a,0<j→arr[j]? = some x→as[j]? = some a→RepO w p x a
structure BlksOut (w:World) (p:Prot) (bk:Nat→Nat) (blks:List (Nat×List AV)) (bs:Blocks):Prop where
 len:blks.length=bs.length
 each:∀ (i j:Nat) (cs cs':List AV),blks[i]? = some (j,cs)→bs[i]? = some cs'→∃ c e,w.heap[bk j]? = some (.cells c e (0,0))∧Cells (RepI w p) c.toList cs'
def GlobOK (E:Env) (w:World) (p:Prot):Prop:=∀ q cs,E.glob q=some cs→RepI w p (.pointer (some ⟨q,0,none⟩)) (.rptr cs)
abbrev Trip (β:Type):=β×(Nat→Blk)×FP
def trip {β:Type}:β→(Nat→Blk)→FP→Option (Trip β):=fun a s f=>some (a,s,f)
structure CallOK (P:Program) (E:Env) (rts:Nat→Option (List Nat)):Prop where
 call:∀ f as blks r bs rt,E.call f as blks=some (r,bs)→rts f=some rt→∀ (w:World) (p:Prot) (vals:Array Value) (bk:Nat→Nat),NewP w p→GlobOK E w p→vals.size=as.length →
  (∀ (i:Nat) (v:Value) (a:AV),vals[i]? = some v→as[i]? = some a→ArgRep w p bk blks v a)→BlksIn w p bk blks →
  CallsX P f vals w fun v w'=>∃ p',Kept (fun β=>∃ j cs,(j,cs)∈blks∧bk j=β) w p w' p'∧ResRep E w.heap.size w' p' rt v r∧BlksOut w' p' bk blks bs
 inl:∀ f run,E.inl f=some run→∀ {B:Nat} {M:Nat→Prop} {w0:World} {p0:Prot} {w:World} {p:Prot} {g:Nat→Value} {st:Nat→Blk},SInv B M w0 p0 w p g st→GlobOK E w p→∀ {kb:Nat} {args:List AV} {xs:List Value},Cells (RepV w p g (used st)) xs args →
  ∀ {v:AV} {st':Nat→Blk} {fp:FP},run.run _ kb args st trip=some (v,st',fp)→CallsX P f xs.toArray w fun x w'=>∃ p' g',SInv B M w0 p0 w' p' g' st'∧Mono w p g (used st) w' p' g' (used st')∧RepV w' p' g' (used st') x v
section
variable {P:Program} {B:Nat} {M:Nat→Prop} {w0:World} {p0:Prot} {w:World} {p:Prot} {g:Nat→Value}
structure ArgsOut (w:World) (p:Prot) (g:Nat→Value) (st:Nat→Blk) (j:Nat) (xs:List Value) (as:List AV) (bl:List (Nat×Nat×List AV)):Prop where
 len:xs.length=as.length
 each:∀ i x a,xs[i]? = some x→as[i]? = some a→RepO w p x a∨∃ b cs β,(j+i,b,cs)∈bl∧a = .ptr (j+i) 0∧g b = .pointer (some ⟨β,0,none⟩)∧x = .pointer (some ⟨β,0,none⟩)
 blk:∀ i b cs,(i,b,cs)∈bl→j≤i∧∃ β c e old,g b = .pointer (some ⟨β,0,none⟩)∧st b = .cells old∧w.heap[β]? = some (.cells c e (0,0))∧Cells (RepI w p) c.toList cs
 keys:(bl.map (·.1)).Nodup
 dist:(bl.map (·.2.1)).Nodup
theorem sim_outA {α:Type} {st:Nat→Blk} {p:Prot} (h:SInv B M w0 p0 w p g st) {i:TI} {x:Value} {v:AV} (hx:RepV w p g (used st) x v) {k:AV→(Nat→Blk)→FP→Option α} {r:α} (hk:outA i v st k=some r) :
  ∃ a st' fp p',k a st' fp=some r∧SInv B M w0 p0 w p' g st'∧Mono w p g (used st) w p' g (used st')∧RepO w p' x a∧Pres st st':=by
 unfold outA at hk
 split at hk
 ·obtain ⟨a,rfl⟩:=hx.nils
  exact ⟨_,_,_,p,hk,h,Mono.refl,.inl .nils,Pres.refl⟩
 ·exact sim_out' h hx hk
theorem sim_outArgs {α:Type} {E:Env}:∀ {j:Nat} {tys:List Nat} {vs:List AV} {xs:List Value} {st:Nat→Blk} {p:Prot},SInv B M w0 p0 w p g st→Cells (RepV w p g (used st)) xs vs→∀ {k:List AV→List (Nat×Nat×List AV)→(Nat→Blk)→FP→Option α} {r:α},
  outArgs E j tys vs st k=some r→∃ as bl st' fp p',k as bl st' fp=some r∧SInv B M w0 p0 w p' g st'∧Mono w p g (used st) w p' g (used st')∧ArgsOut w p' g st' j xs as bl∧Pres st st'
 | j,[],[],xs,st,p,h,hx,k,r,hk=>by
  simp only [outArgs] at hk
  have:=hx.nil_iff
  subst this
  exact ⟨_,_,_,_,p,hk,h,Mono.refl,⟨rfl,fun i x a hx=>by simp at hx,fun i b cs hb=>by simp at hb,by simp,by simp⟩,Pres.refl⟩
 | j,ty::tys,v::vs,xs,st,p,h,hx,k,r,hk=>by
  obtain ⟨x,xs',rfl,hv,hrest⟩:=hx.uncons
  simp only [outArgs] at hk
  split at hk
  ·-- a pointer to a block
   rename_i b off
   obtain ⟨hub,β,hg,rfl⟩:=hv.ptr
   split at hk
   ·rename_i cs hst
    split at hk
    ·rename_i ei hei
     obtain ⟨hcond,hk1⟩:=bif_inv hk
     simp only [Bool.and_eq_true,beq_iff_eq] at hcond
     obtain ⟨ho,hsz⟩:=hcond
     subst ho
     have hb:=h.blk b
     rw [hst] at hb
     obtain ⟨β',c,e,h1,h2,h3,h4,h5⟩:=hb
     have hbe:β'=β:=by rw [h1] at hg;cases hg;rfl
     subst hbe
     obtain ⟨cs',st1,f1,p1,hk2,hs1,hm1,hr1,hp1⟩:=sim_outCs' h h4 hk1
     obtain ⟨as,bl,st2,f2,p2,hk3,hs2,hm2,ha,hp2⟩:=sim_outArgs hs1 (hrest.imp fun _ _=>hm1.repV) hk2
     cases hany:(bl.any fun x=>x.2.1==b) with
     | true=>rw [hany] at hk3;cases hk3
     | false =>
      rw [hany] at hk3
      simp only [cond_false] at hk3
      refine ⟨_,_,_,_,p2,hk3,hs2,hm1.trans hm2,⟨by simp [ha.len],fun i x a hxi hai=> ?_,fun i b' cs'' hmem=> ?_,?_,?_⟩,hp1.trans hp2⟩
      ·cases i with
       | zero =>
        simp at hxi hai
        subst hxi;subst hai
        exact .inr ⟨b,cs',β',by simp,by simp,hg,rfl⟩
       | succ i =>
        simp at hxi hai
        rcases ha.each i x a hxi hai with hr | ⟨b',cs'',β'',hmem,e1,e2,e3⟩
        ·exact .inl hr
        ·refine .inr ⟨b',cs'',β'',?_,?_,e2,e3⟩
         ·rw [show j+(i+1)=j+1+i by omega];simp [hmem]
         ·rw [show j+(i+1)=j+1+i by omega];exact e1
      ·rcases List.mem_cons.1 hmem with hmem | hmem
       ·cases hmem
        exact ⟨Nat.le_refl _,β',c,e,cs,h1,hp2 _ _ (hp1 _ _ hst),h3,hr1.imp fun _ _=>hm2.repI⟩
       ·obtain ⟨h6,h7⟩:=ha.blk i b' cs'' hmem
        exact ⟨by omega,h7⟩
      ·simp only [Zx,List.nodup_cons]
       refine ⟨fun hm=> ?_,ha.keys⟩
       obtain ⟨⟨i,b',cs''⟩,hmem,e1⟩:=List.mem_map.1 hm
       have:=(ha.blk i b' cs'' hmem).1
       simp at e1
       omega
      ·simp only [Zx,List.nodup_cons]
       refine ⟨fun hm=> ?_,ha.dist⟩
       obtain ⟨⟨i,b',cs''⟩,hmem,e1⟩:=List.mem_map.1 hm
       have:=List.any_eq_false.1 hany _ hmem
       simp at this e1
       exact this e1
    ·cases hk
   ·cases hk
  ·split at hk
   ·rename_i i hi
    obtain ⟨a,st1,f1,p1,hk1,hs1,hm1,hr1,hp1⟩:=sim_outA h hv hk
    obtain ⟨as,bl,st2,f2,p2,hk2,hs2,hm2,ha,hp2⟩:=sim_outArgs hs1 (hrest.imp fun _ _=>hm1.repV) hk1
    refine ⟨_,_,_,_,p2,hk2,hs2,hm1.trans hm2,⟨by simp [ha.len],fun i x a hxi hai=> ?_,fun i b' cs'' hmem=> ?_,ha.keys,ha.dist⟩,hp1.trans hp2⟩
    ·cases i with
     | zero =>
      simp at hxi hai
      subst hxi;subst hai
      exact .inl (hr1.mono hm2.prot hm2.cell)
     | succ i =>
      simp at hxi hai
      rcases ha.each i x a hxi hai with hr | ⟨b',cs'',β'',hmem,e1,e2,e3⟩
      ·exact .inl hr
      ·refine .inr ⟨b',cs'',β'',?_,?_,e2,e3⟩
       ·rw [show j+(i+1)=j+1+i by omega];exact hmem
       ·rw [show j+(i+1)=j+1+i by omega];exact e1
    ·obtain ⟨h6,h7⟩:=ha.blk i b' cs'' hmem
     exact ⟨by omega,h7⟩
   ·cases hk
 | _,[],_::_,_,_,_,_,_,_,_,hk=>by simp [outArgs] at hk
 | _,_::_,[],_,_,_,_,_,_,_,hk=>by simp [outArgs] at hk
theorem RowOK.base {B' e size n:Nat} {v:Value} {xs:List Value} (h:RowOK w B' e size v n xs) (hB:B≤B'):RowOK w B e size v n xs:=by
 obtain ⟨hl,h | ⟨β,cap,cur,h1,h2,h3,r⟩⟩:=h
 ·exact ⟨hl,.inl h⟩
 ·exact ⟨hl,.inr ⟨β,cap,cur,h1,h2,by omega,r⟩⟩
theorem RowOK.slice {e size n:Nat} {v:Value} {xs:List Value} (h:RowOK w B e size v n xs):∃ a l c,v = .slice a l c:=by
 obtain ⟨_,⟨_,a,h⟩ | ⟨β,cap,cur,h,_⟩⟩:=h
 ·exact ⟨_,_,_,h⟩
 ·exact ⟨_,_,_,h⟩
theorem RowOK.vblk_ge {e size n:Nat} {v:Value} {xs:List Value} (h:RowOK w B e size v n xs) {β:Nat} (hv:vblk v=some β):B≤β∧β<w.heap.size:=by
 obtain ⟨_,⟨_,a,hg⟩ | ⟨β',cap,cur,hg,h0,hB,hh,_⟩⟩:=h
 ·rw [hg] at hv;cases a<;>simp [vblk] at hv
 ·rw [hg] at hv
  have:β'=β:=by simp [vblk] at hv;exact hv.2
  subst this
  exact ⟨hB,heap_lt hh⟩
theorem SInv.addRow {st:Nat→Blk} (h:SInv B M w0 p0 w p g st) {B' t:Nat} {b:Blk} {x:Value} (ht:st t = .free) (hb:b.live) (hlive:∀ k β,(st k).live→vblk (g k)=some β→β<B') (hx:∀ β,vblk x=some β→B'≤β)
  (hB:Mono w p g (used st) w p (upd g t x) (used (upd st t b))→BlkOK w p (upd g t x) (used (upd st t b)) B M t b) :
  SInv B M w0 p0 w p (upd g t x) (upd st t b)∧Mono w p g (used st) w p (upd g t x) (used (upd st t b)):=by
 have hbf:b ≠ .free:=fun e=>by rw [e] at hb;exact hb
 have hu:∀ k,used st k→used (upd st t b) k:=fun k hk=>used_upd hbf hk
 have hg:∀ k,used st k→upd g t x k=g k:=fun k hk=>upd_ne _ _ (fun e=>by subst e;exact hk ht)
 refine h.change rfl rfl rfl (Nat.le_refl _) (fun k=>k=t) (fun _=>False) (fun k hk=>upd_ne _ _ hk) hu hg (fun β hβ _=>⟨rfl,rfl⟩) (fun _ hd=>hd.elim) (fun _=>Nat.le_refl _) (fun _ _ _=>rfl) h.newp (fun _ _ _ _ _ hd=>hd.elim) ?_ ?_
 ·rintro k rfl
  rw [upd_same]
  exact hB ⟨fun _=>Nat.le_refl _,fun _ _ _=>rfl,hg,hu⟩
 ·rintro k k' β rfl hne _ hl' hva hvb
  rw [upd_same] at hva
  rw [upd_ne _ _ hne] at hl' hvb
  have h1:=hx β hva
  have h2:=hlive k' β hl' hvb
  omega
theorem RepO.repW {u:Nat→Prop} {v:Value} {a:AV} (h:RepO w p v a):RepW w p g u v a:=by
 rcases h with h | ⟨arr,cs,rfl,rfl,h⟩
 ·exact .inl (.imm h)
 ·exact .inr ⟨arr,cs,rfl,rfl,h.imp fun _ _ => .imm⟩
theorem sim_inRes {α:Type} {E:Env} {st:Nat→Blk} (h:SInv B M w0 p0 w p g st) {B' t ty:Nat} {i:TI} (hi:E.ty ty=some i) (hBB:B≤B') (hlive:∀ k β,(st k).live→vblk (g k)=some β→β<B') {own:Bool} {x:Value} {v:AV} (hr:Res1 E B' w p ty x v) {k:AV→(Nat→Blk)→FP→Option α} {r:α}
  (hk:inRes E own t i v st k=some r):∃ a st' fp g',k a st' fp=some r∧SInv B M w0 p0 w p g' st'∧Mono w p g (used st) w p g' (used st')∧RepW w p g' (used st') x a:=by
 unfold inRes at hk
 split at hk
 ·rename_i e hkd
  split at hk
  ·rename_i ht
   obtain ⟨l,rfl,hk2⟩:=onOwnB_inv hk
   rcases hr with (hr | ⟨_,_,_,hr,_⟩) | ⟨i',e',l',hi',hk',he,hrow,hp⟩ | ⟨i',e',ei,l',vs,_,_,_,he,_⟩ | ⟨_,_,_,_,_,_,_,_,_,_,_,_,_,_,he,_⟩
   ·cases hr
   ·cases hr
   ·cases he
    rw [hi] at hi';cases hi'
    rw [hkd] at hk';cases hk'
    obtain ⟨hs,hm⟩:=h.addRow (t:=t) (b := .rowB e l false) (x:=x) ht trivial hlive (fun β hv=>(hrow.vblk_ge hv).1)
     (fun hm=>⟨by rw [upd_same];exact hrow.base hBB,fun β hv=>by rw [upd_same] at hv;rw [hp β hv];exact ⟨Zy _,fun _=>rfl⟩⟩)
    have hus:used (upd st t (.rowB e l false)) t:=by unfold used;rw [upd_same];simp
    have hgt:upd g t x t=x:=upd_same _ _ _
    have hrc:=RepC.row (w:=w) (p:=p) (g:=upd g t x) (u:=used (upd st t (.rowB e l false))) (k:=t) hus (by rw [hgt];exact hrow.slice)
    rw [hgt] at hrc
    exact ⟨_,_,_,_,hk2,hs,hm,.inl hrc⟩
   ·cases he
   ·cases he
  ·cases hk
 ·rename_i e hkd
  split at hk
  ·rename_i ei ht hei
   obtain ⟨l,rfl,hk2⟩:=onOwnL_inv hk
   rcases hr with (hr | ⟨_,_,_,hr,_⟩) | ⟨i',e',l',hi',hk',he,hrow,hp⟩ | ⟨i',e',ei',l',vs,hi',hk',hei',he,hpos,hsz,hrow,hcells,hp⟩ | ⟨_,_,_,_,_,_,_,_,_,_,_,_,_,_,he,_⟩
   ·cases hr
   ·cases hr
   ·cases he
   ·cases he
    rw [hi] at hi';cases hi'
    rw [hkd] at hk';cases hk'
    rw [hei] at hei';cases hei'
    obtain ⟨hs,hm⟩:=h.addRow (t:=t) (b := .rowL e ei.size l false) (x:=x) ht trivial hlive (fun β hv=>(hrow.vblk_ge hv).1)
     (fun hm=>⟨hpos,hsz,vs,by rw [upd_same];exact hrow.base hBB,hcells,fun β hv=>by rw [upd_same] at hv;rw [hp β hv];exact ⟨Zy _,fun _=>rfl⟩⟩)
    have hus:used (upd st t (.rowL e ei.size l false)) t:=by unfold used;rw [upd_same];simp
    have hgt:upd g t x t=x:=upd_same _ _ _
    have hrc:=RepC.row (w:=w) (p:=p) (g:=upd g t x) (u:=used (upd st t (.rowL e ei.size l false))) (k:=t) hus (by rw [hgt];exact hrow.slice)
    rw [hgt] at hrc
    exact ⟨_,_,_,_,hk2,hs,hm,.inl hrc⟩
   ·cases he
  ·cases hk
 ·rename_i fs hkd
  rcases inStr_inv hk with ⟨cs,j,l,e,ei,rfl,hj,ht,hrt,hk2⟩ | hk2
  ·have noOwn:∀ {y:Value} {l':List AV},RepI w p y (.ownL l')→False:=fun h=>by cases h
   rcases hr with (hr | ⟨arr',cs',_,hcs',hr⟩) | ⟨_,_,_,_,_,he,_⟩ | ⟨_,_,_,_,_,_,_,_,he,_⟩ | ⟨i',fs',j',e',ei',arr,cs',l',y,vs,hi',hk',hrt',rfl,he,hj',hlen,hy,hpos,hsz,hrow,hcells,hp,hoth⟩
   ·cases hr
   ·cases hcs'
    obtain ⟨y,hy⟩:∃ y,arr'.toList[j]? = some y:=by
     have:j<cs.length:=by rw [List.getElem?_eq_some_iff] at hj;exact hj.1
     exact ⟨_,List.getElem?_eq_getElem (by rw [hr.len];exact this)⟩
    exact (noOwn (hr.each j y _ hy hj)).elim
   ·cases he
   ·cases he
   ·cases he
    rw [hi] at hi';cases hi'
    rw [hkd] at hk';cases hk'
    rw [hrt] at hrt';cases hrt'
    rw [hj] at hj';cases hj'
    obtain ⟨hs,hm⟩:=h.addRow (t:=t) (b := .rowL e ei.size l false) (x:=y) ht trivial hlive (fun β hv=>(hrow.vblk_ge hv).1)
     (fun hm=>⟨hpos,hsz,vs,by rw [upd_same];exact hrow.base hBB,hcells,fun β hv=>by rw [upd_same] at hv;rw [hp β hv];exact ⟨Zy _,fun _=>rfl⟩⟩)
    have hus:used (upd st t (.rowL e ei.size l false)) t:=by unfold used;rw [upd_same];simp
    have hgt:upd g t y t=y:=upd_same _ _ _
    have hrc:=RepC.row (w:=w) (p:=p) (g:=upd g t y) (u:=used (upd st t (.rowL e ei.size l false))) (k:=t) hus (by rw [hgt];exact hrow.slice)
    rw [hgt] at hrc
    refine ⟨_,_,_,_,hk2,hs,hm,.inr ⟨arr,_,rfl,rfl,by simpa using hlen,fun m v c hv hc=> ?_⟩⟩
    rcases Decidable.em (m=j) with q | q
    ·subst q
     have hlt:m<cs.length:=by rw [List.getElem?_eq_some_iff] at hj;exact hj.1
     rw [List.getElem?_set_self hlt] at hc
     cases hc
     rw [hy] at hv;cases hv
     exact hrc
    ·rw [List.getElem?_set_ne (fun h=>q h.symm)] at hc
     exact .imm (hoth m v c q hv hc)
  ·have hk3:=norm_inv hk2
   have hro:RepO w p x v:=by
    rcases hr with hr | ⟨i',e',l',hi',hk',he,_⟩ | ⟨i',e',ei,l',vs,_,_,_,he,_⟩ | ⟨_,_,_,_,_,_,_,_,_,_,_,_,_,_,he,hj,_⟩
    ·exact hr
    ·subst he
     have:=norm_cts hk2
     exact this.elim
    ·subst he
     have:=norm_cts hk2
     exact this.elim
    ·subst he
     exact (norm_noOwn hk2 _ _ hj).elim
   exact ⟨_,_,_,g,hk3,h,Mono.refl,hro.repW⟩
 ·have hk2:=norm_inv hk
  have hro:RepO w p x v:=by
   rcases hr with hr | ⟨i',e',l',hi',hk',he,_⟩ | ⟨i',e',ei,l',vs,_,_,_,he,_⟩ | ⟨_,_,_,_,_,_,_,_,_,_,_,_,_,_,he,hj,_⟩
   ·exact hr
   ·subst he
    have:=norm_cts hk
    exact this.elim
   ·subst he
    have:=norm_cts hk
    exact this.elim
   ·subst he
    exact (norm_noOwn hk _ _ hj).elim
  exact ⟨_,_,_,g,hk2,h,Mono.refl,hro.repW⟩
end
end Go.Abs
/- Calls, whole. -/
namespace Go.Abs
set_option linter.unusedVariables false
theorem norm1_cps {α:Type} (c:CT) (v:AV) (k:AV→Option α):norm1 c v k=(norm1 c v some).bind k:=by
 cases c<;>cases v<;>simp only [norm1,AV.onInt,AV.onU8,AV.onBool,AV.onStr,AV.onBs,AV.onSl]<;>first | rfl | (split<;>rfl) | skip
 all_goals (rename_i a b c;first | (cases (b==a)<;>rfl) | (cases (Nat.beq b a)<;>rfl))
theorem normCs_cps {α:Type}:∀ (cs:List CT) (l:List AV) (k:List AV→Option α),normCs cs l k=(normCs cs l some).bind k
 | [],l,k=>by cases l<;>rfl
 | c::cs,l,k=>by
  cases l with
  | nil=>rfl
  | cons x r =>
   simp only [normCs,onCons]
   rw [norm1_cps c x,norm1_cps c x fun x'=>normCs cs r fun r'=>some (x'::r')]
   cases norm1 c x some with
   | none=>rfl
   | some x' =>
    simp only [Option.bind_some]
    rw [normCs_cps cs r,normCs_cps cs r fun r'=>some (x'::r')]
    cases normCs cs r some<;>rfl
theorem norm_cps {α:Type} (i:TI) (v:AV) (k:AV→Option α):norm i v k=(norm i v some).bind k:=by
 unfold norm
 split
 ·cases v<;>simp only [AV.onAgg,Option.bind_none]
  rename_i cs
  rw [normCs_cps i.cts cs,normCs_cps i.cts cs fun cs'=>some (AV.agg cs')]
  cases normCs i.cts cs some<;>rfl
 ·split
  ·exact norm1_cps _ v k
  ·rfl
theorem normO_cps {α:Type} {t:Nat}:∀ (j:Nat) (cts:List CT) (cs:List AV) (k:List AV→List AV→Option α),normO t j cts cs k=(normO t j cts cs fun a l=>some (a,l)).bind fun x=>k x.1 x.2
 | 0,[],cs,k=>rfl
 | j+1,[],cs,k=>rfl
 | 0,c::cts,cs,k=>by
  cases cs with
  | nil=>rfl
  | cons x r =>
   simp only [normO,onCons]
   cases x<;>simp only [AV.onOwnL,Option.bind_none]
   rename_i l
   rw [normCs_cps cts r,normCs_cps cts r fun r'=>some (AV.row t::r',l)]
   cases normCs cts r some<;>rfl
 | j+1,c::cts,cs,k=>by
  cases cs with
  | nil=>rfl
  | cons x r =>
   simp only [normO,onCons]
   rw [norm1_cps c x,norm1_cps c x fun x'=>normO t j cts r fun r' l=>some (x'::r',l)]
   cases norm1 c x some with
   | none=>rfl
   | some x' =>
    simp only [Option.bind_some]
    rw [normO_cps j cts r,normO_cps j cts r fun r' l=>some (x'::r',l)]
    cases normO t j cts r fun a l=>some (a,l)<;>rfl
theorem inRes_cps {α:Type} {E:Env} {own:Bool} {t:Nat} {i:TI} {v:AV} {st:Nat→Blk} {k:AV→(Nat→Blk)→FP→Option α} :
  inRes E own t i v st k=(inRes E own t i v st trip).bind fun x=>k x.1 x.2.1 x.2.2:=by
 unfold inRes
 split
 ·split
  ·cases v<;>rfl
  ·rfl
 ·split
  ·cases v<;>rfl
  ·rfl
 ·unfold inStr
  split
  ·rename_i j e ei _
   split
   ·cases v<;>simp only [AV.onAgg,Option.bind_none]
    rename_i cs
    rw [normO_cps,normO_cps j i.cts cs fun cs' l=>trip (AV.agg cs') (upd st t (.rowL e ei.size l false)) ⟨[t],[t]⟩]
    cases normO t j i.cts cs fun a l=>some (a,l)<;>rfl
   ·rfl
  ·rw [norm_cps,norm_cps i v fun v'=>trip v' st FP.none]
   cases norm i v some<;>rfl
 ·rw [norm_cps,norm_cps i v fun v'=>trip v' st FP.none]
  cases norm i v some<;>rfl
theorem inTup_cps {α:Type} {E:Env}:∀ {own:Bool} {t:Nat} {tys:List Nat} {l:List AV} {st:Nat→Blk} {k:List AV→(Nat→Blk)→FP→Option α},
  inTup E own t tys l st k=(inTup E own t tys l st trip).bind fun x=>k x.1 x.2.1 x.2.2
 | own,t,[],l,st,k=>by cases l<;>rfl
 | own,t,ty::tys,l,st,k=>by
  simp only [inTup]
  cases E.ty ty with
  | none=>rfl
  | some i =>
   cases l with
   | nil=>rfl
   | cons x r =>
    simp only [onCons]
    rw [inRes_cps,inRes_cps (k:=fun a st1 f1=>inTup E false (t+4096) tys r st1 fun l' st2 f2=>trip (a::l') st2 (f1.add f2))]
    cases inRes E own t i x st trip with
    | none=>rfl
    | some y =>
     simp only [Option.bind_some]
     rw [inTup_cps,inTup_cps (k:=fun l' st2 f2=>trip (y.1::l') st2 (y.2.2.add f2))]
     cases inTup E false (t+4096) tys r y.2.1 trip<;>rfl
theorem bind_inv {α β:Type} {x:Option α} {f:α→Option β} {r:β} (h:x.bind f=some r):∃ a,x=some a∧f a=some r:=by
 cases x with
 | none=>cases h
 | some a=>exact ⟨a,rfl,h⟩
section
variable {P:Program} {B:Nat} {M:Nat→Prop} {w0:World} {p0:Prot} {w:World} {p:Prot} {g:Nat→Value}
theorem sim_inTup_false {E:Env}:∀ {t:Nat} {tys:List Nat} {l:List AV} {st:Nat→Blk} {xs:List Value} {as:List AV} {st':Nat→Blk} {fp:FP},Cells (RepO w p) xs l →
  inTup E false t tys l st trip=some (as,st',fp)→st'=st∧as=l
 | t,[],l,st,xs,as,st',fp,hx,hk=>by
  simp only [inTup] at hk
  obtain ⟨rfl,hk2⟩:=onNil_inv hk
  cases hk2
  exact ⟨rfl,rfl⟩
 | t,ty::tys,l,st,xs,as,st',fp,hx,hk=>by
  simp only [inTup] at hk
  cases hty:E.ty ty with
  | none=>rw [hty] at hk;cases hk
  | some i =>
   rw [hty] at hk
   obtain ⟨x,r,rfl,hk2⟩:=onCons_inv hk
   obtain ⟨y,ys,rfl,hy,hys⟩:=hx.uncons
   have hk3:norm i x (fun v'=>inTup E false (t+4096) tys r st fun l' st2 f2=>trip (v'::l') st2 (FP.none.add f2))=some (as,st',fp):=by
    unfold inRes at hk2
    split at hk2
    ·rename_i h _;cases h
    ·rename_i h _;cases h
    ·rename_i h _;cases h
    ·exact hk2
   have hk4:=norm_inv hk3
   rw [inTup_cps] at hk4
   obtain ⟨⟨as',st1,f1⟩,e1,e2⟩:=bind_inv hk4
   obtain ⟨rfl,rfl⟩:=sim_inTup_false hys e1
   cases e2
   exact ⟨rfl,rfl⟩
theorem sim_inTup {E:Env} {st:Nat→Blk} (h:SInv B M w0 p0 w p g st) {B' t:Nat} (hBB:B≤B') (hlive:∀ k β,(st k).live→vblk (g k)=some β→β<B') {own:Bool} {tys:List Nat} {l:List AV} {xs:List Value}
  (hlen:xs.length=l.length) (h0:∀ x a ty,xs[0]? = some x→l[0]? = some a→tys[0]? = some ty→Res1 E B' w p ty x a) (hr:∀ (j:Nat) (x:Value) (a:AV),0<j→xs[j]? = some x→l[j]? = some a→RepO w p x a) {as:List AV} {st':Nat→Blk} {fp:FP}
  (hk:inTup E own t tys l st trip=some (as,st',fp)):∃ g',SInv B M w0 p0 w p g' st'∧Mono w p g (used st) w p g' (used st')∧Cells (RepW w p g' (used st')) xs as:=by
 cases tys with
 | nil =>
  simp only [inTup] at hk
  obtain ⟨rfl,hk2⟩:=onNil_inv hk
  cases hk2
  have:xs=[]:=Zz (by simpa using hlen)
  subst this
  exact ⟨g,h,Mono.refl,Cells.nil⟩
 | cons ty tys =>
  simp only [inTup] at hk
  cases hty:E.ty ty with
  | none=>rw [hty] at hk;cases hk
  | some i =>
   rw [hty] at hk
   obtain ⟨x,r,rfl,hk2⟩:=onCons_inv hk
   cases xs with
   | nil=>simp at hlen
   | cons y ys =>
    have hys:Cells (RepO w p) ys r:=⟨by simpa using hlen,fun j v c hv hc=>hr (j+1) v c (by omega) (by simpa using hv) (by simpa using hc)⟩
    obtain ⟨a,st1,f1,g',hk3,hs,hm,hw⟩:=sim_inRes h hty hBB hlive (h0 y x ty rfl rfl rfl) hk2
    rw [inTup_cps] at hk3
    obtain ⟨⟨as',st2,f2⟩,e1,e2⟩:=bind_inv hk3
    obtain ⟨rfl,rfl⟩:=sim_inTup_false hys e1
    cases e2
    exact ⟨g',hs,hm,Cells.cons hw (hys.imp fun _ _ h=>h.repW)⟩
theorem inBlks_inv {α:Type}:∀ {bl:List (Nat×Nat×List AV)} {bs:Blocks} {st:Nat→Blk} {k:(Nat→Blk)→Option α} {r:α},inBlks bl bs st k=some r→(bl.map (·.2.1)).Nodup →
  ∃ st1,k st1=some r∧bl.length=bs.length∧(∀ (i j b:Nat) (old:List AV),bl[i]? = some (j,b,old)→∃ cs,bs[i]? = some cs∧old.length=cs.length∧st1 b = .cells cs)∧∀ b,b ∉ bl.map (·.2.1)→st1 b=st b
 | [],bs,st,k,r,hk,hn=>by
  obtain ⟨rfl,hk⟩:=onNilB_inv hk
  exact ⟨st,hk,rfl,fun i j b old h=>by simp at h,fun _ _=>rfl⟩
 | (j0,b0,old0)::tl,bs0,st,k,r,hk,hn=>by
  simp only [inBlks] at hk
  obtain ⟨cs0,bs,rfl,hk⟩:=onConsB_inv hk
  obtain ⟨hk1,hlen,_⟩:=normLikes_inv hk
  simp only [Zx,List.nodup_cons] at hn
  obtain ⟨st1,h1,h2,h3,h4⟩:=inBlks_inv hk1 hn.2
  refine ⟨st1,h1,by simp [h2],fun i j b old h=> ?_,fun b hb=> ?_⟩
  ·cases i with
   | zero =>
    simp at h
    obtain ⟨rfl,rfl,rfl⟩:=h
    refine ⟨cs0,rfl,hlen,?_⟩
    rw [h4 b0 hn.1,upd_same]
   | succ i =>
    simp at h
    obtain ⟨cs,e1,e2,e3⟩:=h3 i j b old h
    exact ⟨cs,by simpa using e1,e2,e3⟩
  ·simp only [Zx,List.mem_cons,not_or] at hb
   rw [h4 b hb.2,upd_ne _ _ hb.1]
theorem find_key:∀ {bl:List (Nat×Nat×List AV)},(bl.map (·.1)).Nodup→∀ {j b:Nat} {cs:List AV},(j,b,cs)∈bl→bl.find? (fun x=>x.1==j)=some (j,b,cs)
 | [],_,j,b,cs,h=>by simp at h
 | x::tl,hn,j,b,cs,h=>by
  simp only [Zx,List.nodup_cons] at hn
  rcases List.mem_cons.1 h with h | h
  ·subst h;simp
  ·have hne:x.1≠j:=fun e=>hn.1 (e ▸ List.mem_map.2 ⟨_,h,rfl⟩)
   rw [List.find?_cons_of_neg (by simpa using hne)]
   exact find_key hn.2 h
theorem CallsX.mono {f:FuncId} {vals:Array Value} {R R':Value→World→Prop} (h:CallsX P f vals w R) (hr:∀ v w',R v w'→R' v w'):CallsX P f vals w R':=by
 rcases h with ⟨h1,h2⟩ | ⟨v,w',h1,h2⟩
 ·exact .inl ⟨h1,h2.mono fun e w' ⟨v,e1,e2⟩=>⟨v,e1,hr v w' e2⟩⟩
 ·exact .inr ⟨v,w',h1,hr v w' h2⟩
theorem GlobOK.mono {E:Env} {w':World} {p':Prot} (h:GlobOK E w p) (hp:∀ β,p β≤p' β) (hc:∀ β i,i<p β→w'.cell? ⟨β,i,none⟩=w.cell? ⟨β,i,none⟩):GlobOK E w' p' :=
 fun q cs hq=>(h q cs hq).mono hp hc
theorem sim_doCall {α:Type} {E:Env} {rts:Nat→Option (List Nat)} (hC:CallOK P E rts) (hG:GlobOK E w p) {fr:Fr} (h:SInv B M w0 p0 w p g fr.st) {t f:Nat} {tys:List Nat} {vs:List AV} {xs:List Value} (hx:Cells (RepV w p g (used fr.st)) xs vs) {k:Ret α} {r:α}
  (hk:doCall E fr rts t f tys vs k=some r) :
  ∃ v st' fp,k v st' fp=some r∧CallsX P f xs.toArray w fun x w'=>∃ p' g',SInv B M w0 p0 w' p' g' st'∧Mono w p g (used fr.st) w' p' g' (used st')∧RepV w' p' g' (used st') x v:=by
 unfold doCall at hk
 cases hrt:rts f with
 | none=>rw [hrt] at hk;cases hk
 | some rt =>
  rw [hrt] at hk
  obtain ⟨as,bl,st,fp,p1,hk1,h1,hm1,ha,hp1⟩:=sim_outArgs h hx hk
  obtain ⟨⟨res,bs⟩,hcall,hk2⟩:=bind_inv hk1
  obtain ⟨st1,hk3,hbl,hb1,hb2⟩:=inBlks_inv hk2 ha.dist
  simp only at hbl hb1
  have hmemi:∀ {j b:Nat} {cs:List AV},(j,b,cs)∈bl→∃ cs',st1 b = .cells cs':=fun hm=>by
   obtain ⟨i,hi⟩:=List.mem_iff_getElem?.1 hm
   obtain ⟨cs',_,_,e⟩:=hb1 i _ _ _ hi
   exact ⟨cs',e⟩
  let bk:Nat→Nat:=fun j=>match bl.find? (fun x=>x.1==j) with | some x=>(vblk (g x.2.1)).getD 0 | none=>0
  have hbk:∀ {j b:Nat} {cs:List AV},(j,b,cs)∈bl→∀ {β:Nat},g b = .pointer (some ⟨β,0,none⟩)→bk j=β:=fun hm β hg=>by
   simp only [bk];rw [find_key ha.keys hm];simp [hg,vblk]
  have hblk:∀ {j b:Nat} {cs:List AV},(j,b,cs)∈bl→∃ c e old,g b = .pointer (some ⟨bk j,0,none⟩)∧st b = .cells old∧w.heap[bk j]? = some (.cells c e (0,0))∧Cells (RepI w p1) c.toList cs∧(M (bk j)∨B≤bk j)∧p1 (bk j)=0:=fun {j b cs} hm=>by
   obtain ⟨_,β,c,e,old,e1,e2,e3,e4⟩:=ha.blk j b cs hm
   have hb:=hbk hm e1
   subst hb
   have hbo:=h1.blk b
   rw [e2] at hbo
   obtain ⟨β',c',e',f1,f2,f3,f4,f5⟩:=hbo
   rw [e1] at f1;cases f1
   exact ⟨c,e,old,e1,e2,e3,e4,f2,f5⟩
  have hin:BlksIn w p1 bk (bl.map fun x=>(x.1,x.2.2)):=by
   refine ⟨fun j cs hm=> ?_,?_,fun j j' cs cs' hm hm' he=> ?_⟩
   ·obtain ⟨⟨j',b,cs'⟩,hm',e⟩:=List.mem_map.1 hm
    simp at e;obtain ⟨rfl,rfl⟩:=e
    obtain ⟨c,e,old,e1,e2,e3,e4,e5,e6⟩:=hblk hm'
    exact ⟨c,e,e3,e4,e6⟩
   ·rw [List.map_map];exact ha.keys
   ·obtain ⟨⟨j1,b,cs1⟩,hm1,e⟩:=List.mem_map.1 hm
    simp at e;obtain ⟨rfl,rfl⟩:=e
    obtain ⟨⟨j2,b',cs2⟩,hm2,e⟩:=List.mem_map.1 hm'
    simp at e;obtain ⟨rfl,rfl⟩:=e
    obtain ⟨c,e,old,e1,e2,_⟩:=hblk hm1
    obtain ⟨c',e',old',e1',e2',_⟩:=hblk hm2
    by_cases hbb:b=b'
    ·subst hbb
     obtain ⟨i1,hi1⟩:=List.mem_iff_getElem?.1 hm1
     obtain ⟨i2,hi2⟩:=List.mem_iff_getElem?.1 hm2
     have hnd:=ha.dist
     have l1:(bl.map (·.2.1))[i1]? = some b:=by rw [List.getElem?_map,hi1];rfl
     have l2:(bl.map (·.2.1))[i2]? = some b:=by rw [List.getElem?_map,hi2];rfl
     have:i1=i2:=(List.getElem?_inj (by exact (List.getElem?_eq_some_iff.1 l1).1) hnd).1 (l1.trans l2.symm)
     subst this
     rw [hi1] at hi2;cases hi2;rfl
    ·exact absurd (by rw [e1'];simp [vblk,he]) (h1.dist b b' (bk j1) hbb (by rw [e2];trivial) (by rw [e2'];trivial) (by rw [e1];rfl))
  have hc:=hC.call f as _ res bs rt hcall hrt w p1 xs.toArray bk h1.newp (hG.mono hm1.prot hm1.cell) (by simp [ha.len]) (fun i v a hv haa=>by
   rcases ha.each i v a (by simpa using hv) haa with hr | ⟨b,cs,β,e1,e2,e3,e4⟩
   ·exact .inl hr
   ·simp only [Nat.zero_add] at e1 e2
    refine .inr ⟨i,cs,List.mem_map.2 ⟨_,e1,rfl⟩,e2,?_⟩
    rw [e4,hbk e1 e3]) hin
  have hafter:∀ (x:Value) (w':World) (p':Prot),Kept (fun β=>∃ j cs,(j,cs)∈bl.map (fun x=>(x.1,x.2.2))∧bk j=β) w p1 w' p'→BlksOut w' p' bk (bl.map fun x=>(x.1,x.2.2)) bs →
    SInv B M w0 p0 w' p' g st1∧Mono w p1 g (used st) w' p' g (used st1)∧∀ k β,(st1 k).live→vblk (g k)=some β→β<w.heap.size:=by
   intro x w' p' hkp hbo
   have hKD:∀ {β:Nat},(∃ j cs,(j,cs)∈bl.map (fun x=>(x.1,x.2.2))∧bk j=β)→∃ j b cs old,(j,b,cs)∈bl∧bk j=β∧g b = .pointer (some ⟨β,0,none⟩)∧st b = .cells old∧(M β∨B≤β)∧p1 β=0:=by
    rintro β ⟨j,cs,hm,rfl⟩
    obtain ⟨⟨j',b,cs'⟩,hm',e⟩:=List.mem_map.1 hm
    simp at e;obtain ⟨rfl,rfl⟩:=e
    obtain ⟨c,e,old,e1,e2,e3,e4,e5,e6⟩:=hblk hm'
    exact ⟨j',b,cs',old,hm',rfl,e1,e2,e5,e6⟩
   have hmemK:∀ {k:Nat},k∈bl.map (·.2.1)→∃ j cs,(j,k,cs)∈bl:=fun hk=>by
    obtain ⟨⟨j,b,cs⟩,hm,e⟩:=List.mem_map.1 hk
    simp at e;subst e
    exact ⟨j,cs,hm⟩
   have hlive1:∀ k,(st1 k).live→(st k).live:=fun k hl=>by
    by_cases hk:k∈bl.map (·.2.1)
    ·obtain ⟨j,cs,hm⟩:=hmemK hk
     obtain ⟨c,e,old,e1,e2,_⟩:=hblk hm
     rw [e2];trivial
    ·rw [hb2 k hk] at hl;exact hl
   have hlt:∀ β,(∃ j cs,(j,cs)∈bl.map (fun x=>(x.1,x.2.2))∧bk j=β)→β<w.heap.size:=fun β hd=>by
    obtain ⟨j,b,cs,old,hm,e1,e2,e3,_⟩:=hKD hd
    exact (h1.blk b).vblk_lt (by rw [e3];trivial) (by rw [e2];rfl)
   obtain ⟨hs,hm⟩:=h1.change (w':=w') (p':=p') (g':=g) (st':=st1) hkp.os hkp.tape hkp.output hkp.size (fun k=>k∈bl.map (·.2.1)) (fun β=>∃ j cs,(j,cs)∈bl.map (fun x=>(x.1,x.2.2))∧bk j=β)
    (fun k hk=>hb2 k hk) (fun k hk=>by
     by_cases hkb:k∈bl.map (·.2.1)
     ·obtain ⟨j,cs,hm⟩:=hmemK hkb
      obtain ⟨cs',e⟩:=hmemi hm
      unfold used;rw [e];simp
     ·unfold used;rw [hb2 k hkb];exact hk) (fun _ _=>rfl)
    (fun β hβ hd=>⟨hkp.block β hβ hd,hkp.prot β hβ⟩)
    (fun β hd hβ=>by
     obtain ⟨j,b,cs,old,hm,e1,e2,e3,e4,e5⟩:=hKD hd
     exact ⟨e4.resolve_right (by omega),hkp.prot β (hlt β hd)⟩)
    (fun β=>by
     rcases Nat.lt_or_ge β w.heap.size with hlt | hge
     ·rw [hkp.prot β hlt];exact Nat.le_refl _
     ·rw [h1.newp β hge];exact Zy _)
    (fun β i hi=>by
     rcases Nat.lt_or_ge β w.heap.size with hlt | hge
     ·by_cases hd:∃ j cs,(j,cs)∈bl.map (fun x=>(x.1,x.2.2))∧bk j=β
      ·obtain ⟨j,b,cs,old,hm,e1,e2,e3,e4,e5⟩:=hKD hd
       rw [e5] at hi;omega
      ·exact cell_same (hkp.block β hlt hd) i
     ·rw [h1.newp β hge] at hi;omega)
    hkp.newp
    (fun k β hk hl hv hd=>by
     obtain ⟨j,b,cs,old,hm,e1,e2,e3,e4,e5⟩:=hKD hd
     have hne:k≠b:=fun e=>hk (by subst e;exact List.mem_map.2 ⟨_,hm,rfl⟩)
     exact h1.dist k b β hne hl (by rw [e3];trivial) hv (by rw [e2];rfl))
    (fun k hk=>by
     obtain ⟨j,cs,hm⟩:=hmemK hk
     obtain ⟨c,e,old,e1,e2,e3,e4,e5,e6⟩:=hblk hm
     obtain ⟨i,hi⟩:=List.mem_iff_getElem?.1 hm
     obtain ⟨cs',f1,f2,f3⟩:=hb1 i _ _ _ hi
     obtain ⟨c',e',g1,g2⟩:=hbo.each i j cs cs' (by rw [List.getElem?_map,hi];rfl) f1
     rw [f3]
     exact ⟨bk j,c',e',e1,e5,g1,g2.imp fun _ _ => .imm,(hkp.prot _ (heap_lt e3)).trans e6⟩)
    (fun k k' β hk hne hl hl' hv=>h1.dist k k' β (Ne.symm hne) (hlive1 k hl) (hlive1 k' hl') hv)
   exact ⟨hs,hm,fun k β hl hv=>(h1.blk k).vblk_lt (hlive1 k hl) hv⟩
  split at hk3
  ·rename_i ty
   split at hk3
   ·rename_i i hty
    rw [inRes_cps] at hk3
    obtain ⟨⟨v,st2,f2⟩,e1,e2⟩:=bind_inv hk3
    refine ⟨v,st2,_,e2,hc.mono ?_⟩
    rintro x w' ⟨p',hkp,hrr,hbo⟩
    obtain ⟨hs,hm,hlv⟩:=hafter x w' p' hkp hbo
    obtain ⟨a,st',fp',g',e3,hs2,hm2,hw⟩:=sim_inRes hs hty h1.size hlv hrr e1
    cases e3
    exact ⟨p',g',hs2,(hm1.trans hm).trans hm2,.inr (.inl hw)⟩
   ·cases hk3
  ·rename_i rt' hne
   obtain ⟨vs',hvs',hk4⟩:=onTup_inv hk3
   rw [inTup_cps] at hk4
   obtain ⟨⟨l,st2,f2⟩,e1,e2⟩:=bind_inv hk4
   refine ⟨.tup l,st2,_,e2,hc.mono ?_⟩
   rintro x w' ⟨p',hkp,hrr,hbo⟩
   obtain ⟨hs,hm,hlv⟩:=hafter x w' p' hkp hbo
   unfold ResRep at hrr
   split at hrr
   ·exact absurd rfl (hne _)
   ·obtain ⟨arr,as',rfl,e3,h4,h5,h6,h7⟩:=hrr
    simp only at hvs'
    rw [hvs'] at e3;cases e3
    obtain ⟨g',hs2,hm2,hw⟩:=sim_inTup hs h1.size hlv (xs:=arr.toList) (by simp [h4,h5]) (fun x a ty hx ha ht=>h6 x a ty (by simpa using hx) ha ht) (fun j x a hj hx ha=>h7 j x a hj (by simpa using hx) ha) e1
    exact ⟨p',g',hs2,(hm1.trans hm).trans hm2,.inr (.inr ⟨arr,l,rfl,rfl,hw⟩)⟩
end
end Go.Abs
