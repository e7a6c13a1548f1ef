/- Structs held against each other. -/
import Derived.Test.YtiplnpablmohiaaGreatAbsOps8
import Derived.Laws.StructEq
open List renaming eq_nil_of_length_eq_zero→Zz
namespace Go.Abs
set_option linter.unusedVariables false
section
variable {P:Program} {w:World} {p:Prot} {g:Nat→Value} {u:Nat→Prop}
theorem andO_inv {a b:Option Bool} {c:Bool} (h:andO a b=some c):∃ c1 c2,a=some c1∧b=some c2∧c=(c1&&c2):=by
 unfold andO at h
 split at h
 ·split at h
  ·cases h;exact ⟨_,_,rfl,rfl,rfl⟩
  ·cases h
 ·cases h
theorem cellsEq_cons {x y:AV} {xs ys:List AV} {c:Bool} (h:cellsEq (x::xs) (y::ys)=some c):∃ c1 c2,cellEq x y=some c1∧cellsEq xs ys=some c2∧c=(c1&&c2):=by
 cases xs with
 | nil =>
  cases ys with
  | nil=>simp only [cellsEq] at h;exact ⟨c,true,h,rfl,by simp⟩
  | cons y' ys=>simp only [cellsEq] at h;exact andO_inv h
 | cons x' xs =>
  cases ys with
  | nil=>simp only [cellsEq] at h;obtain ⟨_,_,_,h2,_⟩:=andO_inv h;cases h2
  | cons y' ys=>simp only [cellsEq] at h;exact andO_inv h
theorem cellsEq_length:∀ {xs ys:List AV} {c:Bool},cellsEq xs ys=some c→xs.length=ys.length
 | [],[],_,_=>rfl
 | [],y::ys,_,h=>by simp [cellsEq] at h
 | x::xs,[],_,h=>by cases xs<;>simp [cellsEq] at h
 | x::xs,y::ys,_,h=>by
  obtain ⟨_,_,_,h2,_⟩:=cellsEq_cons h
  simp [cellsEq_length h2]
theorem cellsEq_split:∀ (n:Nat) {xs ys:List AV} {c:Bool},cellsEq xs ys=some c→∃ c1 c2,cellsEq (xs.take n) (ys.take n)=some c1∧cellsEq (xs.drop n) (ys.drop n)=some c2∧c=(c1&&c2)
 | 0,xs,ys,c,h=>⟨true,c,by simp [cellsEq],by simpa using h,by simp⟩
 | n+1,[],[],c,h=>⟨true,c,by simp [cellsEq],by simpa using h,by simp⟩
 | n+1,[],y::ys,c,h=>by simp [cellsEq] at h
 | n+1,x::xs,[],c,h=>by cases xs<;>simp [cellsEq] at h
 | n+1,x::xs,y::ys,c,h=>by
  obtain ⟨a,b,h1,h2,rfl⟩:=cellsEq_cons h
  obtain ⟨c1,c2,h3,h4,rfl⟩:=cellsEq_split n h2
  refine ⟨a&&c1,c2,?_,by simpa using h4,by simp [Bool.and_assoc]⟩
  simp only [List.take_succ_cons]
  have e:cellsEq (x::xs.take n) (y::ys.take n)=andO (cellEq x y) (cellsEq (xs.take n) (ys.take n)):=by
   cases hx:xs.take n with
   | nil =>
    cases hy:ys.take n with
    | nil=>simp [cellsEq,h1,andO]
    | cons=>rw [hx,hy] at h3;simp [cellsEq] at h3
   | cons=>cases hy:ys.take n<;>simp only [cellsEq]
  rw [e,h1,h3]
  rfl
def mkV (agg:Bool) (xs:List Value):Value:=if agg then .agg xs.toArray else xs.headD undef
def aggT (P:Program) (t:Nat):Bool:=match P.underlying t with | some (.struct _)=>true | some (.array ..)=>true | _=>false
theorem run_isAgg' {t:Nat} {d:TypeDesc} (h:P.underlying t=some d):(isAgg t).run P w = .ok (aggT P t) w:=by
 unfold isAgg aggT
 rw [h]
 cases d<;>simp [run_underlying h]
theorem run_part {t:Nat} {d:TypeDesc} {info:TypeInfo} (hu:P.underlying t=some d) (hi:P.info? t=some info) (xs:List Value) (off:Nat) (hfit:off+info.size≤xs.length) (hpos:aggT P t=false→0<info.size) :
  (part t xs.toArray off).run P w = .ok (mkV (aggT P t) ((xs.drop off).take info.size)) w:=by
 unfold part
 cases ha:aggT P t with
 | true =>
  simp [run_isAgg' hu,ha,run_sizeOf hi,mkV,List.extract_eq_take_drop]
 | false =>
  have hlt:off<xs.length:=by have:=hpos ha;omega
  obtain ⟨n,hn⟩:∃ n,info.size=n+1:=⟨info.size-1,by have:=hpos ha;omega⟩
  rw [List.drop_eq_getElem_cons hlt,hn,List.take_succ_cons]
  simp [run_isAgg' hu,ha,mkV,hlt]
theorem ctMatch_append:∀ {a b:List CT} {vs:List AV},ctMatch (a++b) vs=true→ctMatch a (vs.take a.length)=true∧ctMatch b (vs.drop a.length)=true
 | [],b,vs,h=>⟨by simp [ctMatch],by simpa using h⟩
 | c::a,b,[],h=>by cases c<;>simp [ctMatch] at h
 | c::a,b,v::vs,h=>by
  cases c<;>cases v<;>simp [ctMatch] at h
  ·obtain ⟨h1,h2⟩:=h
   obtain ⟨i1,i2⟩:=ctMatch_append h2
   exact ⟨by simp [ctMatch,h1,i1],by simpa using i2⟩
  all_goals
   obtain ⟨i1,i2⟩:=ctMatch_append h
   exact ⟨by simp [ctMatch,i1],by simpa using i2⟩
theorem ctMatch_length:∀ {a:List CT} {vs:List AV},ctMatch a vs=true→vs.length=a.length
 | [],[],_=>rfl
 | [],v::vs,h=>by simp [ctMatch] at h
 | c::a,[],h=>by cases c<;>simp [ctMatch] at h
 | c::a,v::vs,h=>by
  cases c<;>cases v<;>simp [ctMatch] at h
  ·simp [ctMatch_length h.2]
  all_goals simp [ctMatch_length h]
theorem joinC_inv {a:Option (List CT)} {i:Option TypeInfo} {b:Option (List CT)} {r:List CT} (h:joinC a i b=some r):∃ x j y,a=some x∧i=some j∧b=some y∧x.length=j.size∧r=x++y:=by
 unfold joinC at h
 split at h
 ·split at h
  ·split at h
   ·split at h
    ·cases h;exact ⟨_,_,_,rfl,rfl,rfl,by assumption,rfl⟩
    ·cases h
   ·cases h
  ·cases h
 ·cases h
theorem run_eqFields {D q:Nat} {xs ys:List Value} (hf:∀ (t o:Nat) (info:TypeInfo) (cts:List CT) (as bs:List AV) (c:Bool),P.info? t=some info→eqCts P D t=some cts→cts.length=info.size→ctMatch cts as=true→Cells (RepC w p g u) ((xs.drop o).take info.size) as→Cells (RepC w p g u) ((ys.drop o).take info.size) bs→cellsEq as bs=some c →
   (Op.equalIn (D+q) t (mkV (aggT P t) ((xs.drop o).take info.size)) (mkV (aggT P t) ((ys.drop o).take info.size))).run P w = .ok c w) :
  ∀ (fs:List Field) (o:Nat) (cts:List CT),layoutOK P fs o=true→fs.foldr (fun f acc=>joinC (eqCts P D f.type) (P.info? f.type) acc) (some [])=some cts→∀ (as bs:List AV) (c:Bool),ctMatch cts as=true→Cells (RepC w p g u) (xs.drop o) as→Cells (RepC w p g u) (ys.drop o) bs→cellsEq as bs=some c→o≤xs.length→o≤ys.length →
  (Op.eqFields (D+q) xs.toArray ys.toArray fs).run P w = .ok c w
 | [],o,cts,hl,he,as,bs,c,hm,hx,hy,hc,ho,ho'=>by
  simp at he
  subst he
  have:as=[]:=Zz (by simpa using ctMatch_length hm)
  subst this
  have hb:=cellsEq_length hc
  have:bs=[]:=Zz (by simpa using hb.symm)
  subst this
  simp [cellsEq] at hc
  subst hc
  rfl
 | f::fs,o,cts,hl,he,as,bs,c,hm,hx,hy,hc,ho,ho'=>by
  simp only [layoutOK,Bool.and_eq_true,beq_iff_eq,bne_iff_ne] at hl
  obtain ⟨⟨hoff,hname⟩,hrest⟩:=hl
  rw [List.foldr_cons] at he
  obtain ⟨c1s,info,c2s,he1,hinfo,he2,hcl,rfl⟩:=joinC_inv he
  rw [hinfo] at hrest
  simp only [Bool.and_eq_true] at hrest
  obtain ⟨hsz0,hrest⟩:=hrest
  have hsz1:0<info.size:=Nat.le_of_ble_eq_true hsz0
  obtain ⟨hm1,hm2⟩:=ctMatch_append hm
  rw [hcl] at hm1 hm2
  have hml:=ctMatch_length hm
  simp only [List.length_append] at hml
  obtain ⟨c1,c2,h1,h2,rfl⟩:=cellsEq_split info.size hc
  have hxl:xs.length-o=as.length:=by have:=hx.len;simpa using this
  have hyl:ys.length-o=bs.length:=by have:=hy.len;simpa using this
  have hab:=cellsEq_length hc
  have hd:∃ d,P.underlying f.type=some d:=by
   cases hu:P.underlying f.type with
   | some d=>exact ⟨d,rfl⟩
   | none=>cases D<;>simp [eqCts,hu] at he1
  obtain ⟨d,hu⟩:=hd
  have hx1:=hx.take info.size
  have hy1:=hy.take info.size
  have h3:=hf f.type o info c1s _ _ c1 hinfo he1 hcl hm1 hx1 hy1 h1
  have hpx:=run_part (P:=P) (w:=w) hu hinfo xs o (by omega) (fun _=>hsz1)
  have hpy:=run_part (P:=P) (w:=w) hu hinfo ys o (by omega) (fun _=>hsz1)
  have hx2:=hx.drop info.size
  have hy2:=hy.drop info.size
  rw [List.drop_drop] at hx2 hy2
  have ih:=run_eqFields hf fs (o+info.size) c2s hrest he2 _ _ c2 hm2 hx2 hy2 h2 (by omega) (by omega)
  simp only [Op.eqFields,hname,ne_eq,not_false_eq_true,if_true,hoff,Sem.run_bind,hpx,hpy,Result.andThen_ok,h3]
  cases c1
  ·simp
  ·simpa using ih
theorem ctInt_match {k:IntKind} {as:List AV} (h:ctMatch [ctInt k] as=true):(∃ n,as=[.int k n])∨(k = .u8∧∃ b,as=[.u8 b]):=by
 cases as with
 | nil=>cases k<;>simp [ctInt,ctMatch] at h
 | cons a r =>
  have hl:=ctMatch_length h
  have:r=[]:=Zz (by simpa using hl)
  subst this
  cases k<;>cases a<;>simp [ctInt,ctMatch] at h<;>first | (subst h;exact .inl ⟨_,rfl⟩) | exact .inr ⟨rfl,_,rfl⟩
theorem run_equal_cells {q:Nat}:∀ (D:Nat) (t:Nat) (info:TypeInfo) (cts:List CT),P.info? t=some info→eqCts P D t=some cts→∀ {xs ys:List Value} {as bs:List AV} {c:Bool},ctMatch cts as=true→Cells (RepC w p g u) xs as→Cells (RepC w p g u) ys bs→cellsEq as bs=some c →
  (Op.equalIn (D+q) t (mkV (aggT P t) xs) (mkV (aggT P t) ys)).run P w = .ok c w
 | 0,t,info,cts,hi,he,xs,ys,as,bs,c,hm,hx,hy,hc=>by simp [eqCts] at he
 | D+1,t,info,cts,hi,he,xs,ys,as,bs,c,hm,hx,hy,hc=>by
  have hD:D+1+q=(D+q)+1:=by omega
  have one:∀ (a b:AV),as=[a]→bs=[b]→∃ x y,xs=[x]∧ys=[y]∧RepC w p g u x a∧RepC w p g u y b∧cellEq a b=some c:=by
   rintro a b rfl rfl
   obtain ⟨x,xs',rfl,hxa,hx'⟩:=hx.uncons
   obtain ⟨y,ys',rfl,hyb,hy'⟩:=hy.uncons
   have e1:=hx'.nil_iff
   have e2:=hy'.nil_iff
   subst e1;subst e2
   exact ⟨x,y,rfl,rfl,hxa,hyb,by simpa only [cellsEq] using hc⟩
  have hbl:∀ a,as=[a]→∃ b,bs=[b]:=fun a ha=>by
   subst ha
   have:=cellsEq_length hc
   exact List.length_eq_one_iff.1 this.symm
  unfold eqCts at he
  split at he
  ·rename_i k i hu hi'
   split at he
   ·cases he
    have hag:aggT P t=false:=by simp [aggT,hu]
    have ha:∃ a,as=[a]:=by rcases ctInt_match hm with ⟨n,h⟩ | ⟨_,b,h⟩<;>exact ⟨_,h⟩
    obtain ⟨a,ha⟩:=ha
    obtain ⟨b,hb⟩:=hbl a ha
    obtain ⟨x,y,rfl,rfl,hxa,hyb,hce⟩:=one a b ha hb
    rw [hag]
    simp only [mkV,Bool.false_eq_true,if_false,List.headD_cons]
    rcases cellEq_inv hxa.v hyb.v hce with ⟨k',n,m,rfl,rfl,e⟩ | ⟨s,r,rfl,rfl,e⟩ | ⟨s,r,rfl,rfl,e⟩
    ·rw [hD,run_equalIn_int w _ t k' _ n m hu,e]
    ·subst ha
     rcases ctInt_match hm with ⟨n,h⟩ | ⟨_,b,h⟩
     ·cases h;have h2:=hxa.v.int;cases h2.1
     ·cases h;have h2:=hxa.v.u8;cases h2
    ·subst ha
     rcases ctInt_match hm with ⟨n,h⟩ | ⟨_,b,h⟩
     ·cases h;have h2:=hxa.v.int;cases h2.1
     ·cases h;have h2:=hxa.v.u8;cases h2
   ·cases he
  ·rename_i i hu hi'
   split at he
   ·cases he
    have hag:aggT P t=false:=by simp [aggT,hu]
    have ha:∃ a,as=[.bool a]:=by
     cases as with
     | nil=>simp [ctMatch] at hm
     | cons a r =>
      have hl:=ctMatch_length hm
      have:r=[]:=Zz (by simpa using hl)
      subst this
      cases a<;>simp [ctMatch] at hm
      exact ⟨_,rfl⟩
    obtain ⟨a,ha⟩:=ha
    obtain ⟨b,hb⟩:=hbl _ ha
    obtain ⟨x,y,rfl,rfl,hxa,hyb,hce⟩:=one _ b ha hb
    rw [hag]
    simp only [mkV,Bool.false_eq_true,if_false,List.headD_cons]
    have hxe:=hxa.v.bool
    subst hxe
    rcases cellEq_inv hxa.v hyb.v hce with ⟨k',n,m,h,_,e⟩ | ⟨s,r,h,rfl,e⟩ | ⟨s,r,h,_,e⟩
    ·cases h
    ·cases h;rw [hD,run_equalIn_bool w _ t _ r hu,e]
    ·cases h
   ·cases he
  ·rename_i i hu hi'
   split at he
   ·cases he
    have hag:aggT P t=false:=by simp [aggT,hu]
    have ha:∃ a,as=[.str a]:=by
     cases as with
     | nil=>simp [ctMatch] at hm
     | cons a r =>
      have hl:=ctMatch_length hm
      have:r=[]:=Zz (by simpa using hl)
      subst this
      cases a<;>simp [ctMatch] at hm
      exact ⟨_,rfl⟩
    obtain ⟨a,ha⟩:=ha
    obtain ⟨b,hb⟩:=hbl _ ha
    obtain ⟨x,y,rfl,rfl,hxa,hyb,hce⟩:=one _ b ha hb
    rw [hag]
    simp only [mkV,Bool.false_eq_true,if_false,List.headD_cons]
    obtain ⟨s0,hxe,hs0⟩:=hxa.v.str
    subst hxe
    rcases cellEq_inv hxa.v hyb.v hce with ⟨k',n,m,h,_,e⟩ | ⟨s,r,h,_,e⟩ | ⟨s,r,h,rfl,e⟩
    ·cases h
    ·cases h
    ·cases h;rw [hD,run_equalIn_string w _ t _ r hu,Lib.toList_data,Lib.toList_data,e]
   ·cases he
  ·rename_i fs i hu hi'
   split at he
   ·rename_i hcond
    have hfo:P.fieldsOf t=fs:=by simp [Program.fieldsOf,hu]
    have hag:aggT P t=true:=by simp [aggT,hu]
    rw [hag]
    simp only [mkV,if_true]
    rw [hD,run_equalIn_struct w (D+q) t _ _ (by rw [hfo];exact hu) hcond.1,hfo]
    exact run_eqFields (fun t o inf cts as bs c h1 h2 _ h4 h5 h6 h7=>run_equal_cells D t inf cts h1 h2 h4 h5 h6 h7) fs.toList 0 cts hcond.2 he as bs c hm (by simpa using hx) (by simpa using hy) hc (Nat.zero_le _) (Nat.zero_le _)
   ·cases he
  ·cases he
theorem doBin_agg {op:BinOp} {cs:List AV} {b v:AV} (h:doBin op (.agg cs) b=some v):∃ bs c,b = .agg bs∧cellsEq cs bs=some c∧((op = .eql∧v = .bool c)∨(op = .neq∧v = .bool !c)):=by
 cases b with
 | agg bs =>
  cases op<;>simp only [doBin,intsOf] at h<;>try (cases h;done)
  ·cases hc:cellsEq cs bs with
   | none=>simp [hc] at h
   | some c=>simp [hc] at h;exact ⟨bs,c,rfl,hc,.inl ⟨rfl,h.symm⟩⟩
  ·cases hc:cellsEq cs bs with
   | none=>simp [hc] at h
   | some c=>simp [hc] at h;exact ⟨bs,c,rfl,hc,.inr ⟨rfl,h.symm⟩⟩
 | _=>cases op<;>simp [doBin,intsOf,cellEq] at h
theorem sim_eqAgg {t:Nat} {i:TI} (hi:mkTI P t=some i) {x y:Value} {cs:List AV} {b:AV} {op:BinOp} {v:AV} (hx:RepV w p g u x (.agg cs)) (hy:RepV w p g u y b) (hm:ctMatch i.eqc cs=true) (hne:i.eqc≠[]) (hk:isAggK i.kind=true) (h:doBin op (.agg cs) b=some v) (o1 o2:Operand) :
  ∃ v',(do eqGuard op t o1 o2 x y;binOp op t x y:Sem Value).run P w = .ok v' w∧RepI w p v' v:=by
 obtain ⟨info,z,a1,a2,a3,a4,a5,a6,a7,a8,a9,a10⟩:=mkTI_info hi
 have hguard:P.eqGuardType P.depth t=false:=by
  cases hg:P.eqGuardType P.depth t with
  | false=>rfl
  | true=>simp [hg] at a10;exact absurd a10 hne
 rw [hguard] at a10
 simp only [if_true] at a10
 cases hec:eqCts P 20 t with
 | none=>simp [hec] at a10;exact absurd a10 hne
 | some cts =>
  rw [hec] at a10
  simp only [Option.getD_some] at a10
  rw [a10] at hm
  obtain ⟨bs,c,rfl,hc,hop⟩:=doBin_agg h
  obtain ⟨xa,rfl,hcx⟩:=hx.agg
  obtain ⟨ya,rfl,hcy⟩:=hy.agg
  have hag:aggT P t=true:=by
   cases hkk:i.kind with
   | struct fs=>rw [hkk] at a8;obtain ⟨fields,hu,_⟩:=kind_struct a8;simp [aggT,hu]
   | arr n e b=>rw [hkk] at a8;simp [aggT,(kind_arr a8).1]
   | _=>rw [hkk] at hk;simp [isAggK] at hk
  have hrun:=run_equal_cells (P:=P) (q:=9980) 20 t info cts a1 hec hm hcx hcy hc
  rw [hag] at hrun
  simp only [mkV,if_true] at hrun
  rcases hop with ⟨rfl,rfl⟩ | ⟨rfl,rfl⟩
  ·refine ⟨_,?_,.bool⟩
   rw [Sem.run_bind,run_eqGuard_agg w .eql t o1 o2 xa ya hguard,Result.andThen_ok,run_eql_struct,show (10000:Nat)=20+9980 from rfl]
   simp only [Array.toArray_toList] at hrun
   rw [hrun];rfl
  ·refine ⟨_,?_,.bool⟩
   rw [Sem.run_bind,run_eqGuard_agg w .neq t o1 o2 xa ya hguard,Result.andThen_ok,run_neq_struct,show (10000:Nat)=20+9980 from rfl]
   simp only [Array.toArray_toList] at hrun
   rw [hrun];rfl
end
end Go.Abs
