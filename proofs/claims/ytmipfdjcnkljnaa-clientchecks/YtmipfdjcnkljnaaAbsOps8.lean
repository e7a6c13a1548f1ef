/- Literals. -/
import Derived.Test.YtmipfdjcnkljnaaAbsOps7
import Derived.Laws.MakeOwn
open Nat renaming eq_of_beq_eq_true→Zz,le_of_ble_eq_true→Zy,le_refl→Zx
open Bool renaming and_eq_true→Zw
open List renaming take_of_length_le→Zv
namespace Go.Abs
set_option linter.unusedVariables false
section
variable {P:Program} {B:Nat} {M:Nat→Prop} {w0:World} {p0:Prot} {w:World} {p:Prot} {g:Nat→Value}
theorem fold_set (off:Nat):∀ (us:List Value) (k:Nat) (c:Array Value),off+k+us.length≤c.size →
  ((us.zipIdx k).foldl (fun cs x=>cs.setIfInBounds (off+x.2) x.1) c).toList=c.toList.take (off+k)++us++c.toList.drop (off+k+us.length)
 | [],k,c,h=>by simp
 | u::us,k,c,h=>by
  simp only [List.zipIdx_cons,List.foldl_cons]
  rw [fold_set off us (k+1) _ (by simp at h ⊢;omega)]
  have e:=list_seg_step c.toList (off+k) u us (by simp at h ⊢;omega)
  rw [Array.toList_setIfInBounds]
  simpa [Nat.add_assoc] using e
inductive PartsRep (w:World) (p:Prot) (g:Nat→Value) (u:Nat→Prop):List (Nat×Value)→List (Nat×AV)→Prop
 | nil:PartsRep w p g u [] []
 | cons {i:Nat} {x:Value} {a:AV} {xs:List (Nat×Value)} {as:List (Nat×AV)} (h:RepV w p g u x a) (t:PartsRep w p g u xs as):PartsRep w p g u ((i,x)::xs) ((i,a)::as)
theorem fill_rel {u:Nat→Prop} {pl:Nat→Option (Nat×Nat)} {offs:Nat→Option (Nat×Nat)} (hp:∀ i q,offs i=some q→pl i=some q):∀ {xs:List (Nat×Value)} {as:List (Nat×AV)},PartsRep w p g u xs as→∀ {c:Array Value} {cs cs':List AV},Cells (RepC w p g u) c.toList cs→fill offs as cs=some cs' →
  ∃ c',Instr.fill pl c xs=some c'∧Cells (RepC w p g u) c'.toList cs'
 | _,_,.nil,c,cs,cs',hc,h=>by
  simp [fill] at h
  subst h
  exact ⟨c,rfl,hc⟩
 | _,_,.cons (i:=i) (x:=x) (a:=a) hx ht,c,cs,cs',hc,h=>by
  simp only [fill] at h
  split at h
  ·rename_i q hq
   obtain ⟨hcond,h2⟩:=bif_inv h
   simp only [Zw,beq_iff_eq] at hcond
   obtain ⟨⟨hl,hfit⟩,hcell⟩:=hcond
   have hfit':=Zy hfit
   rw [placeL_eq _ _ _ (by rw [hl];exact hfit')] at h2
   have hxc:=hx.cells hcell
   have hxl:x.cells.size=q.2:=by have:=hxc.len;simp at this;omega
   have hcl:c.size=cs.length:=by have:=hc.len;simpa using this
   have hfs:=fold_set q.1 x.cells.toList 0 c (by simp;omega)
   have hpl:=cells_place hc hxc q.1
   simp only [Nat.add_zero] at hfs
   rw [← hfs] at hpl
   obtain ⟨c',hf,hc'⟩:=fill_rel hp ht hpl h2
   refine ⟨c',?_,hc'⟩
   simp only [Instr.fill,hp i q hq]
   rw [if_neg (by simp;omega)]
   have e:x.cells.zipIdx.foldl (fun cs (y:Value×Nat)=>cs.setIfInBounds (q.1+y.2) y.1) c=(x.cells.toList.zipIdx 0).foldl (fun cs (y:Value×Nat)=>cs.setIfInBounds (q.1+y.2) y.1) c:=by
    rw [← Array.foldl_toList]
    congr 1
    simp
   rw [e]
   exact hf
  ·cases h
theorem run_mapM_pure {β:Type} (f:Field→Sem β) (q:Field→β):∀ (l:List Field),(∀ x∈l,(f x).run P w = .ok (q x) w)→(l.mapM f).run P w = .ok (l.map q) w
 | [],_=>by simp
 | x::r,h=>by
  have h1:=h x (by simp)
  have h2:=run_mapM_pure f q r (fun y hy=>h y (by simp [hy]))
  simp [List.mapM_cons,h1,h2]
theorem sim_build {α:Type} {E:Env} (hty:∀ t i,E.ty t=some i→mkTI P t=some i) {fr:Fr} {t:Nat} {i:TI} (hi:mkTI P t=some i) (h:SInv B M w0 p0 w p g fr.st) {xs:List (Nat×Value)} {ps:List (Nat×AV)} (hx:PartsRep w p g (used fr.st) xs ps) {k:Ret α} {r:α}
  (hk:doBuild E i fr ps k=some r):∃ v' fp,k v' fr.st fp=some r∧Good B M w0 p0 w p g fr.st v' fr.st ((Instr.build t xs.toArray).run P w):=by
 obtain ⟨info,z,a1,a2,a3,a4,a5,a6,a7,a8,a9,_⟩:=mkTI_info hi
 unfold doBuild at hk
 split at hk
 ·rename_i fs hkd
  rw [hkd] at a8
  obtain ⟨fields,hu,hall,rfl⟩:=kind_struct a8
  split at hk
  ·rename_i cs hf
   have hz:=(ofCells_rep (w:=w) (p:=p) a5).imp fun _ _ hh=>RepC.imm (g:=g) (u:=used fr.st) hh
   have hsz:∀ f∈fields.toList,∃ j,P.info? f.type=some j:=fun f hf=>by
    have:=(hall f hf).1
    unfold sized at this
    split at this
    ·rename_i j hj;exact ⟨j,hj⟩
    ·cases this
   have hm:=run_mapM_pure (P:=P) (w:=w) (fun (f:Field)=>do pure (f.offset,← sizeOf f.type)) (fun (f:Field)=>(f.offset,((P.info? f.type).map (·.size)).getD 0)) fields.toList (fun f hf=>by
    obtain ⟨j,hj⟩:=hsz f hf
    simp [run_sizeOf hj,hj])
   have hm':(fields.mapM fun (f:Field)=>do pure (f.offset,← sizeOf f.type)).run P w = .ok (fields.map fun (f:Field)=>(f.offset,((P.info? f.type).map (·.size)).getD 0)) w:=by
    rw [Array.mapM_eq_mapM_toList,Sem.run_map,hm]
    simp only [Result.andThen_ok]
    congr 1
    apply Array.ext'
    simp
   obtain ⟨c',hf',hc'⟩:=fill_rel (p:=p) (g:=g) (u:=used fr.st) (pl:=fun j=>(fields.map fun (f:Field)=>(f.offset,((P.info? f.type).map (·.size)).getD 0))[j]?) (fun j q hq=>by
    rw [List.getElem?_map] at hq
    cases hfd:fields.toList[j]? with
    | none=>simp [hfd] at hq
    | some fd =>
     simp [hfd] at hq
     obtain ⟨fi,hfi,rfl⟩:=hq
     obtain ⟨info',z',b1,b2,_⟩:=mkTI_info (hty _ _ hfi)
     have:fields[j]? = some fd:=by simpa using hfd
     simp [this,b1,b2]) hx hz hf
   refine ⟨_,_,hk,Good.same h (v' := .agg c') ?_ (.inr (.inl (.inr ⟨c',cs,rfl,rfl,hc'⟩)))⟩
   simp only [Instr.build,Sem.run_bind,run_zeroValue a1 a4,Result.andThen_ok,run_underlying hu,hm']
   simp only [hf']
   rfl
  ·cases hk
 ·cases hk
inductive PartsO (w:World) (p:Prot):List (Nat×Value)→List (Nat×AV)→Prop
 | nil:PartsO w p [] []
 | cons {i:Nat} {x:Value} {a:AV} {xs:List (Nat×Value)} {as:List (Nat×AV)} (h:RepO w p x a) (t:PartsO w p xs as):PartsO w p ((i,x)::xs) ((i,a)::as)
theorem PartsRep.mono {w':World} {p':Prot} {g':Nat→Value} {u u':Nat→Prop} (m:Mono w p g u w' p' g' u') {xs:List (Nat×Value)} {as:List (Nat×AV)} (h:PartsRep w p g u xs as):PartsRep w' p' g' u' xs as:=by
 induction h with
 | nil=>exact .nil
 | cons h _ ih=>exact .cons (m.repV h) ih
theorem sim_outParts {α:Type} {ei:TI}:∀ {ps:List (Nat×AV)} {xs:List (Nat×Value)} {st:Nat→Blk} {p:Prot},SInv B M w0 p0 w p g st→PartsRep w p g (used st) xs ps→∀ {k:List (Nat×AV)→(Nat→Blk)→FP→Option α} {r:α},
  outParts ei ps st k=some r→∃ as st' fp p',k as st' fp=some r∧SInv B M w0 p0 w p' g st'∧Mono w p g (used st) w p' g (used st')∧PartsO w p' xs as
 | [],xs,st,p,h,hx,k,r,hk=>by
  cases hx
  simp only [outParts] at hk
  exact ⟨_,_,_,p,hk,h,Mono.refl,.nil⟩
 | (i,v)::ps,xs,st,p,h,hx,k,r,hk=>by
  cases hx with
  | cons hv ht =>
   simp only [outParts] at hk
   obtain ⟨a,st1,f1,p1,hk1,hs1,hm1,hr1⟩:=sim_out h hv hk
   obtain ⟨as,st2,f2,p2,hk2,hs2,hm2,hr2⟩:=sim_outParts hs1 (ht.mono hm1) hk1
   exact ⟨_,_,_,p2,hk2,hs2,hm1.trans hm2,.cons (hr1.mono hm2.prot hm2.cell) hr2⟩
theorem fill_all {size:Nat}:∀ {as:List (Nat×AV)} {xs:List (Nat×Value)} {j:Nat} {els:List AV},PartsO w p xs as→allParts j as=some els→(∀ e∈els,e.cells.length=size)→∀ {c:Array Value} {pre:List Value},c.toList.take (j*size)=pre→pre.length=j*size→c.size=(j+els.length)*size →
  ∃ c' vs,Instr.fill (fun i=>some (i*size,size)) c xs=some c'∧c'.toList=pre++vs∧Cells (RepI w p) vs (els.flatMap AV.cells)
 | [],xs,j,els,hp,ha,hs,c,pre,hpre,hl,hc=>by
  cases hp
  simp [allParts] at ha
  subst ha
  refine ⟨c,[],rfl,?_,.nil⟩
  rw [← hpre,List.append_nil,Zv (by simp [hc])]
 | (i,a)::as,xs,j,els,hp,ha,hs,c,pre,hpre,hl,hc=>by
  cases hp with
  | cons hx ht =>
   rename_i x xs
   simp only [allParts] at ha
   obtain ⟨hij,ha2⟩:=bif_inv ha
   have hij':=Zz hij
   subst hij'
   cases hr:allParts (i+1) as with
   | none=>simp [hr] at ha2
   | some els' =>
    simp [hr] at ha2
    subst ha2
    have hxc:=hx.cells
    have ha1:a.cells.length=size:=hs a (by simp)
    have hxl:x.cells.size=size:=by have:=hxc.len;simp at this;omega
    have hcs:c.size=(i*size+size)+els'.length*size:=by rw [hc,List.length_cons,Nat.add_mul,Nat.add_mul];omega
    have hfs:=fold_set (i*size) x.cells.toList 0 c (by simp;omega)
    simp only [Nat.add_zero] at hfs
    have hsz2:((x.cells.toList.zipIdx 0).foldl (fun cs (y:Value×Nat)=>cs.setIfInBounds (i*size+y.2) y.1) c).size=c.size:=by
     have:=congrArg List.length hfs
     simp at this
     omega
    obtain ⟨c',vs,hf,hc',hcv⟩:=fill_all (size:=size) (j:=i+1) ht hr (fun e he=>hs e (by simp [he])) (c:=(x.cells.toList.zipIdx 0).foldl (fun cs (y:Value×Nat)=>cs.setIfInBounds (i*size+y.2) y.1) c) (pre:=pre++x.cells.toList) (by
     rw [hfs,hpre,List.take_append_of_le_length (by simp [hl,Nat.add_mul];omega),Zv (by simp [hl,Nat.add_mul];omega)]) (by simp [hl,Nat.add_mul];omega) (by rw [hsz2,hc,List.length_cons];congr 1;omega)
    refine ⟨c',x.cells.toList++vs,?_,by rw [hc'];simp,by rw [List.flatMap_cons];exact hxc.append hcv⟩
    simp only [Instr.fill]
    rw [if_neg (by simp;omega)]
    have e:x.cells.zipIdx.foldl (fun cs (y:Value×Nat)=>cs.setIfInBounds (i*size+y.2) y.1) c=(x.cells.toList.zipIdx 0).foldl (fun cs (y:Value×Nat)=>cs.setIfInBounds (i*size+y.2) y.1) c:=by
     rw [← Array.foldl_toList]
     congr 1
     simp
    rw [e]
    exact hf
theorem allParts_length:∀ {as:List (Nat×AV)} {j:Nat} {els:List AV},allParts j as=some els→els.length=as.length
 | [],j,els,h=>by simp [allParts] at h;subst h;rfl
 | (i,a)::as,j,els,h=>by
  simp only [allParts] at h
  obtain ⟨_,h2⟩:=bif_inv h
  cases hr:allParts (j+1) as with
  | none=>simp [hr] at h2
  | some els'=>simp [hr] at h2;subst h2;simp [allParts_length hr]
theorem partsO_length {xs:List (Nat×Value)} {as:List (Nat×AV)} (h:PartsO w p xs as):xs.length=as.length:=by
 induction h with
 | nil=>rfl
 | cons _ _ ih=>simp [ih]
theorem partsRep_length {u:Nat→Prop} {xs:List (Nat×Value)} {as:List (Nat×AV)} (h:PartsRep w p g u xs as):xs.length=as.length:=by
 induction h with
 | nil=>rfl
 | cons _ _ ih=>simp [ih]
theorem fill_ptrs {u:Nat→Prop} {b0 b':Nat}:∀ {ps:List (Nat×AV)} {xs:List (Nat×Value)} {j:Nat} {offs:List Nat},PartsRep w p g u xs ps→offsOf b0 j ps=some offs→g b0 = .pointer (some ⟨b',0,none⟩)→∀ {c:Array Value},c.size=j+ps.length →
  ∃ c',Instr.fill (fun i=>some (i*1,1)) c xs=some c'∧offs.length=ps.length∧(∀ q,q<j→c'[q]? = c[q]?)∧∀ (q off:Nat),offs[q]? = some off→c'[j+q]? = some (.pointer (some ⟨b',off,none⟩))
 | [],xs,j,offs,hp,ho,hg,c,hc=>by
  cases hp
  simp [offsOf] at ho
  subst ho
  exact ⟨c,rfl,rfl,fun _ _=>rfl,fun q off hq=>by simp at hq⟩
 | (i,a)::ps,xs,j,offs,hp,ho,hg,c,hc=>by
  cases hp with
  | cons hv ht =>
   rename_i x xs
   cases a<;>simp only [offsOf] at ho<;>try (cases ho;done)
   rename_i k off
   obtain ⟨hcond,ho2⟩:=bif_inv ho
   simp only [Zw] at hcond
   have hij:=Zz hcond.1
   have hkb:=Zz hcond.2
   subst hij
   subst hkb
   obtain ⟨_,β,hg2,rfl⟩:=hv.ptr
   have hbb:β=b':=by rw [hg2] at hg;cases hg;rfl
   subst hbb
   cases hr:offsOf k (i+1) ps with
   | none=>simp [hr] at ho2
   | some offs' =>
    simp [hr] at ho2
    subst ho2
    simp only [List.length_cons] at hc
    obtain ⟨c',hf,hl,hold,hnew⟩:=fill_ptrs ht hr hg (c:=c.setIfInBounds i (.pointer (some ⟨β,off,none⟩))) (by simp;omega)
    refine ⟨c',?_,by simp [hl],fun q hq=> ?_,fun q off' hq=> ?_⟩
    ·have hcells:(Value.pointer (some ⟨β,off,none⟩)).cells = #[.pointer (some ⟨β,off,none⟩)]:=rfl
     simp only [Instr.fill]
     rw [hcells]
     have hle:¬ (i+1>c.size):=by omega
     simpa [hle] using hf
    ·rw [hold q (by omega),Array.getElem?_setIfInBounds_ne (by omega)]
    ·cases q with
     | zero =>
      simp at hq
      subst hq
      rw [Nat.add_zero,hold i (by omega),Array.getElem?_setIfInBounds_self_of_lt (by omega)]
     | succ q =>
      simp at hq
      have:=hnew q off' hq
      rw [show i+(q+1)=i+1+q by omega]
      exact this
theorem flat_u8:∀ (l:List UInt8),(l.map AV.u8).flatMap AV.cells=l.map .u8
 | []=>rfl
 | b::l=>by rw [List.map_cons,List.flatMap_cons,flat_u8 l];rfl
theorem sim_buildSlice {α:Type} {E:Env} (hty:∀ t i,E.ty t=some i→mkTI P t=some i) {fr:Fr} {t len:Nat} {i:TI} (hi:mkTI P t=some i) (h:SInv B M w0 p0 w p g fr.st) {xs:List (Nat×Value)} {ps:List (Nat×AV)} (hx:PartsRep w p g (used fr.st) xs ps) {k:Ret α} {r:α}
  (hk:doBuildSlice E fr i len ps k=some r):∃ v' st' fp,k v' st' fp=some r∧Good B M w0 p0 w p g fr.st v' st' ((Instr.buildSlice t len xs.toArray).run P w):=by
 obtain ⟨info,z,a1,a2,a3,a4,a5,a6,a7,a8,a9,_⟩:=mkTI_info hi
 unfold doBuildSlice at hk
 split at hk
 ·rename_i e byte hkd
  rw [hkd] at a8
  obtain ⟨hu,hb8⟩:=kind_slice a8
  split at hk
  ·split at hk
   ·rename_i ei hei
    cases hx
    obtain ⟨info',z',b1,b2,b3,b4,b5,b6,b7,b8,b9,_⟩:=mkTI_info (hty _ _ hei)
    obtain ⟨hs,hm⟩:=h.grow (w':=w.alloc (.cells #[] e)) (p':=p) rfl rfl rfl (by simp) (fun β hβ=>⟨heap_push_old w _ hβ,rfl⟩) (h.newp_alloc _)
    refine ⟨_,_,_,hk,.slice (some ⟨w.heap.size,0,none⟩) 0 0,_,p,g,?_,hs,hm,RepI.v .nils⟩
    simp [Instr.buildSlice,run_underlying hu,run_sizeOf b1,Instr.fill,newRow]
    congr 2
    apply Array.ext'
    simp
   ·cases hk
  ·rename_i len
   split at hk
   ·-- pointers into one block
    rename_i b0 hhead
    split at hk
    ·rename_i ei offs hei hoffs
     obtain ⟨info',z',b1,b2,b3,b4,b5,b6,b7,b8,b9,_⟩:=mkTI_info (hty _ _ hei)
     obtain ⟨hcond,hk1⟩:=bif_inv hk
     simp only [Zw] at hcond
     obtain ⟨⟨hpl,hsz⟩,hbig⟩:=hcond
     have hpl':=Zz hpl
     have hsz':=Zz hsz
     have hbig':=Zy hbig
     generalize hlg:Nat.succ len=len at *
     have hlen0:0<len:=by omega
     obtain ⟨hub,b',hgb⟩:used fr.st b0∧∃ b',g b0 = .pointer (some ⟨b',0,none⟩):=by
      cases hx with
      | nil=>simp [headPtr] at hhead
      | @cons i0 x0 a0 xs0 as0 hv ht =>
       cases a0<;>simp only [headPtr] at hhead<;>try (cases hhead;done)
       cases hhead
       obtain ⟨hu,β,hg,_⟩:=hv.ptr
       exact ⟨hu,β,hg⟩
     have hzs:z'.cells.size=1:=by
      have:=(ofCells_rep (w:=w) (p:=p) b5).len
      simp at this
      omega
     obtain ⟨c',hf,hol,_,hc'⟩:=fill_ptrs (b':=b') hx hoffs hgb (c:=(Array.range len).map (z'.cells[· % z'.cells.size]!)) (by simp [hpl'])
     have hoffl:offs.length=len:=by rw [← hpl'];exact hol
     have hrun:(Instr.buildSlice t len xs.toArray).run P w = .ok (.slice (some ⟨w.heap.size,0,none⟩) len len) (w.alloc (.cells c' e)):=by
      have hbg':¬ 16777216<len:=by omega
      have hi1:info'.size=1:=by rw [b2];exact hsz'
      simp only [Instr.buildSlice,Sem.run_bind,run_underlying hu,Result.andThen_ok,run_sizeOf b1]
      have hne:len*1≠0:=by omega
      rw [hi1]
      simp only [Nat.mul_one] at hf hne ⊢
      simp [hbg',hne,run_zeroValue b1 b4,hf,newRow]
     obtain ⟨hs2,hm2⟩:=h.grow (w':=w.alloc (.cells c' e)) (p':=raise p (some w.heap.size) len) rfl rfl rfl (by simp) (fun β hβ=>⟨heap_push_old w _ hβ,raise_ne (by simp;omega)⟩) (raise_newp (β:=0) h.newp (by simp))
     refine ⟨_,_,_,hk1,_,_,_,g,hrun,hs2,hm2,?_⟩
     rw [← hoffl]
     refine RepC.v (.psl hub hgb fun j off hj=>⟨?_,?_⟩)
     ·rw [raise_same rfl];have:=(List.getElem?_eq_some_iff.1 hj).1;omega
     ·rw [cell_heap (heap_push_new w _)]
      have:=hc' j off hj
      rwa [Nat.zero_add] at this
    ·cases hk
   split at hk
   ·rename_i ei els0 hei hall0
    obtain ⟨info',z',b1,b2,b3,b4,b5,b6,b7,b8,b9,_⟩:=mkTI_info (hty _ _ hei)
    obtain ⟨hcond,hk1⟩:=bif_inv hk
    simp only [Zw] at hcond
    obtain ⟨⟨hpl,hbig⟩,hpos⟩:=hcond
    have hpl':=Zz hpl
    have hbig':=Zy hbig
    have hpos':0<ei.size:=Zy hpos
    obtain ⟨as,st1,f1,p1,hk2,hs1,hm1,hpo⟩:=sim_outParts h hx hk1
    split at hk2
    ·rename_i els hall
     generalize hlg:Nat.succ len=len at *
     have hel:els.length=len:=by rw [allParts_length hall,← partsO_length hpo,partsRep_length hx,hpl']
     have hlen0:0<len:=by omega
     have main:(∀ e∈els,e.cells.length=ei.size)→∃ c vs,(Instr.buildSlice t len xs.toArray).run P w = .ok (.slice (some ⟨w.heap.size,0,none⟩) len len) (w.alloc (.cells c e))∧c.toList=vs∧Cells (RepI w p1) vs (els.flatMap AV.cells):=by
      intro hsz
      have hzs:z'.cells.size=info'.size:=by
       have:=(ofCells_rep (w:=w) (p:=p) b5).len
       simp at this
       omega
      obtain ⟨c',vs,hf,hc',hcv⟩:=fill_all (size:=ei.size) (j:=0) hpo hall hsz (c:=(Array.range (len*ei.size)).map (z'.cells[· % z'.cells.size]!)) (pre:=[]) (by simp) (by simp) (by simp [hel])
      refine ⟨c',vs,?_,by simpa using hc',hcv⟩
      have hne:len*ei.size≠0:=Nat.mul_ne_zero (by omega) (by omega)
      have hbg:¬ len*info'.size>2 ^ 24:=by rw [b2];omega
      rw [← b2] at hf hne
      have hbg':¬ 16777216<len*info'.size:=by omega
      simp only [Instr.buildSlice,Sem.run_bind,run_underlying hu,Result.andThen_ok,run_sizeOf b1]
      simp [hbg',hne,run_zeroValue b1 b4,hf,newRow]
     have fin:∀ (v:AV),(∀ e∈els,e.cells.length=ei.size)→(∀ (w':World) (p':Prot) (c:Array Value),w'.heap[w.heap.size]? = some (.cells c e (0,0))→p' w.heap.size=len*ei.size→Cells (RepI w' p') c.toList (els.flatMap AV.cells)→RepI w' p' (.slice (some ⟨w.heap.size,0,none⟩) len len) v) →
       Good B M w0 p0 w p g fr.st v st1 ((Instr.buildSlice t len xs.toArray).run P w):=by
      intro v hsz hrep
      obtain ⟨c,vs,hrun,rfl,hcv⟩:=main hsz
      obtain ⟨hs2,hm2⟩:=hs1.grow (w':=w.alloc (.cells c e)) (p':=raise p1 (some w.heap.size) (len*ei.size)) rfl rfl rfl (by simp) (fun β hβ=>⟨heap_push_old w _ hβ,raise_ne (by simp;omega)⟩) (raise_newp (β:=0) hs1.newp (by simp))
      exact ⟨_,_,_,g,hrun,hs2,hm1.trans hm2,RepI.v (hrep _ _ c (heap_push_new w _) (raise_same rfl) (hcv.imp fun _ _=>hm2.repI))⟩
     split at hk2
     ·-- bytes
      obtain ⟨hue,ei',he1,he2,he3,he4⟩:=isU8_iff hb8.symm
      have hs1':ei.size=1:=by rw [← b2];rw [b1] at he1;cases he1;exact he2
      split at hk2
      ·rename_i l hl
       have hm:=u8s_map hl
       refine ⟨_,_,_,hk2,fin _ (fun e he=> ?_) (fun w' p' c hh hp' hcv=> ?_)⟩
       ·rw [hm] at he
        obtain ⟨b,_,rfl⟩:=List.mem_map.1 he
        rw [hs1'];rfl
       ·have hfl:els.flatMap AV.cells=l.map .u8:=by
         rw [hm]
         exact flat_u8 l
        rw [hfl] at hcv
        have hcl:=cells_u8 (fun v b=>repI_u8) hcv
        have hll:l.length=len:=by rw [← hel,hm];simp
        refine .bs w.heap.size 0 hll (Zx _) (.inr rfl) fun q b hq=>⟨?_,?_⟩
        ·rw [hp',hs1']
         have:=(List.getElem?_eq_some_iff.1 hq).1
         omega
        ·rw [cell_heap hh]
         have:(l.map u8v)[q]? = some (u8v b):=by simp [hq]
         rw [← hcl] at this
         simpa using this
      ·cases hk2
     ·obtain ⟨hall2,hk3⟩:=bif_inv hk2
      have hsz:∀ e∈els,e.cells.length=ei.size:=fun e he=>Zz (List.all_eq_true.1 hall2 e he)
      refine ⟨_,_,_,hk3,fin _ hsz (fun w' p' c hh hp' hcv=> ?_)⟩
      refine .sl w.heap.size 0 (fun j=>c.toList.getD j undef) hel (Zx _) hsz (.inr rfl) (fun j q hq=>⟨?_,?_⟩) (fun j q hq=> ?_)
      ·rw [hp']
       have:=(List.getElem?_eq_some_iff.1 hq).1
       rw [flat_length hsz,hel] at this
       omega
      ·obtain ⟨v,hv,_⟩:=hcv.get hq
       rw [cell_heap hh]
       simp at hv
       simp [hv]
      ·obtain ⟨v,hv,hr⟩:=hcv.get hq
       simp at hv
       simp [hv]
       exact hr
    ·cases hk2
   ·cases hk
 ·cases hk
theorem sim_make {α:Type} {fr:Fr} {t d:Nat} {i:TI} (hi:mkTI P t=some i) (h:SInv B M w0 p0 w p g fr.st) {x y:Value} {l c:AV} (hx:RepV w p g (used fr.st) x l) (hy:RepV w p g (used fr.st) y c) {k:Ret α} {r:α}
  (hk:doMake fr d i l c k=some r):∃ v' st' fp,k v' st' fp=some r∧Good B M w0 p0 w p g fr.st v' st' ((Instr.makeSlice t x y).run P w):=by
 obtain ⟨info,z,a1,a2,a3,a4,a5,a6,a7,a8,a9,_⟩:=mkTI_info hi
 unfold doMake at hk
 split at hk
 ·rename_i e n m hkd hn hm
  rw [hkd] at a8
  obtain ⟨hu,hb8⟩:=kind_slice a8
  obtain ⟨hue,ei,he1,he2,he3,he4⟩:=isU8_iff hb8.symm
  obtain ⟨kx,rfl⟩:=idx_inv hx hn
  obtain ⟨ky,rfl⟩:=idx_inv hy hm
  obtain ⟨hc,hk1⟩:=chk_inv hk
  simp only [Zw,decide_eq_true_eq] at hc
  obtain ⟨⟨h0,hnm⟩,hbig⟩:=hc
  unfold newBlk at hk1
  split at hk1
  ·rename_i ht
   refine ⟨_,_,_,hk1,?_⟩
   rw [run_make w t e ei (.int .u8 0) hu he1 he4 kx ky n m h0 hnm (by rw [he3];omega) (by omega),he2,Nat.mul_one]
   have hmade:madeCells (Value.int .u8 0).cells m.toNat=Array.replicate m.toNat (u8v 0):=by
    apply Array.ext
    ·simp [madeCells]
    ·intro q h1 h2
     simp [madeCells,Value.cells,u8v,Nat.mod_one]
   rw [hmade]
   have hp:p w.heap.size=0:=h.newp _ (Zx _)
   obtain ⟨hs,hm2⟩:=h.add (w':=w.alloc (.cells (Array.replicate m.toNat (u8v 0)) e)) (p':=p) (t:=d) (b := .rowB e (List.replicate n.toNat 0) false) (v := .slice (some ⟨w.heap.size,0,none⟩) n.toNat m.toNat) ht (by simp) rfl rfl rfl (by simp)
    (fun β hβ=>⟨heap_push_old w _ hβ,rfl⟩) (fun _=>Zx _) (h.newp_alloc _) (fun β hβ=>by
     simp only [vblk] at hβ
     split at hβ
     ·cases hβ
     ·cases hβ;exact Zx _)
    (fun hm2=>by
     refine ⟨⟨by simp,?_⟩,fun β hβ=> ?_⟩
     ·rw [upd_same]
      rcases Nat.eq_zero_or_pos m.toNat with hz | hz
      ·left
       have:n.toNat=0:=by omega
       exact ⟨by simp [this],_,by rw [this,hz]⟩
      ·right
       refine ⟨w.heap.size,m.toNat,_,by simp,hz,h.size,heap_push_new w _,by simp;omega,by simp [maxLen];omega,by simp,?_⟩
       simp only [List.length_replicate,Nat.mul_one,Array.toList_replicate,List.take_replicate,List.map_replicate]
       congr 1
       omega
     ·rw [upd_same] at hβ
      simp only [vblk] at hβ
      split at hβ
      ·cases hβ
      ·cases hβ
       exact ⟨by omega,fun _=>hp⟩)
   refine ⟨_,_,p,_,rfl,hs,hm2,?_⟩
   have:RepC (w.alloc (.cells (Array.replicate m.toNat (u8v 0)) e)) p (upd g d (.slice (some ⟨w.heap.size,0,none⟩) n.toNat m.toNat)) (used (upd fr.st d (.rowB e (List.replicate n.toNat 0) false))) (upd g d (.slice (some ⟨w.heap.size,0,none⟩) n.toNat m.toNat) d) (.row d) :=
    .row (by unfold used;rw [upd_same];simp) ⟨_,_,_,by rw [upd_same]⟩
   rw [upd_same] at this
   exact RepC.v this
  ·cases hk1
 ·cases hk
theorem parts_u8 {u:Nat→Prop}:∀ {ps:List (Nat×AV)} {xs:List (Nat×Value)} {j:Nat} {els:List AV} {l:List UInt8},PartsRep w p g u xs ps→allParts j ps=some els→u8s els=some l→PartsO w p xs ps
 | [],xs,j,els,l,h,ha,hl=>by cases h;exact .nil
 | (i,a)::r,xs,j,els,l,h,ha,hl=>by
  cases h with
  | cons hx ht =>
   simp only [allParts] at ha
   obtain ⟨_,ha1⟩:=bif_inv ha
   obtain ⟨e2,he2,rfl⟩:=Option.map_eq_some_iff.1 ha1
   cases a<;>simp only [u8s] at hl<;>try (cases hl;done)
   obtain ⟨l2,hl2,rfl⟩:=Option.map_eq_some_iff.1 hl
   rw [hx.u8]
   exact .cons (.inl .u8) (parts_u8 ht he2 hl2)
theorem sim_buildOwn {α:Type} {E:Env} (hty:∀ t i,E.ty t=some i→mkTI P t=some i) {fr:Fr} {t d len:Nat} {i:TI} (hi:mkTI P t=some i) (h:SInv B M w0 p0 w p g fr.st) {xs:List (Nat×Value)} {ps:List (Nat×AV)} (hx:PartsRep w p g (used fr.st) xs ps) {k:Ret α} {r:α}
  (hk:doBuildOwn E fr d i len ps k=some r):∃ v' st' fp,k v' st' fp=some r∧Good B M w0 p0 w p g fr.st v' st' ((Instr.buildSlice t len xs.toArray).run P w):=by
 obtain ⟨info,z,a1,a2,a3,a4,a5,a6,a7,a8,a9,_⟩:=mkTI_info hi
 unfold doBuildOwn at hk
 split at hk
 ·rename_i e hkd
  rw [hkd] at a8
  obtain ⟨hu,hb8⟩:=kind_slice a8
  obtain ⟨hue,ei,he1,he2,he3,he4⟩:=isU8_iff hb8.symm
  split at hk
  case h_2=>cases hk
  rename_i els hall
  split at hk
  ·rename_i l hl
   obtain ⟨hcond,hk1⟩:=bif_inv hk
   simp only [Zw] at hcond
   obtain ⟨⟨hpl,hbig⟩,hpos⟩:=hcond
   have hpl':=Zz hpl
   have hbig':=Zy hbig
   have hpos':0<len:=Zy hpos
   have hm:=u8s_map hl
   have hel:els.length=len:=by rw [allParts_length hall,hpl']
   have hll:l.length=len:=by rw [← hel,hm];simp
   unfold newBlk at hk1
   split at hk1
   ·rename_i ht
    refine ⟨_,_,_,hk1,?_⟩
    obtain ⟨c,vs,hf,hc,hcv⟩:=fill_all (size:=1) (j:=0) (parts_u8 hx hall hl) hall (fun e he=>by
     rw [hm] at he
     obtain ⟨b,_,rfl⟩:=List.mem_map.1 he
     rfl) (c:=(Array.range (len*1)).map ((Value.int .u8 0).cells[· % (Value.int .u8 0).cells.size]!)) (pre:=[]) (by simp) (by simp) (by simp [hel])
    have hfl:els.flatMap AV.cells=l.map .u8:=by rw [hm];exact flat_u8 l
    rw [hfl] at hcv
    have hcl:c.toList=l.map u8v:=by rw [hc,List.nil_append];exact cells_u8 (fun v b=>repI_u8) hcv
    have hcs:c.size=len:=by rw [← Array.length_toList,hcl,List.length_map,hll]
    have hrun:(Instr.buildSlice t len xs.toArray).run P w = .ok (.slice (some ⟨w.heap.size,0,none⟩) len len) (w.alloc (.cells c e)):=by
     have hbg':¬ 16777216<len:=by omega
     simp only [Instr.buildSlice,Sem.run_bind,run_underlying hu,Result.andThen_ok,run_sizeOf he1]
     have hne:len*1≠0:=by omega
     rw [he2]
     simp only [Nat.mul_one] at hf hne ⊢
     simp [hbg',hne,run_zeroValue he1 he4,hf,newRow]
    rw [hrun]
    have hp:p w.heap.size=0:=h.newp _ (Zx _)
    obtain ⟨hs,hm2⟩:=h.add (w':=w.alloc (.cells c e)) (p':=p) (t:=d) (b := .rowB e l false) (v := .slice (some ⟨w.heap.size,0,none⟩) len len) ht (by simp) rfl rfl rfl (by simp)
     (fun β hβ=>⟨heap_push_old w _ hβ,rfl⟩) (fun _=>Zx _) (h.newp_alloc _) (fun β hβ=>by
      simp only [vblk] at hβ
      split at hβ
      ·cases hβ
      ·cases hβ;exact Zx _)
     (fun hm2=>by
      refine ⟨⟨by simp,?_⟩,fun β hβ=> ?_⟩
      ·rw [upd_same]
       right
       refine ⟨w.heap.size,len,_,by rw [hll],hpos',h.size,heap_push_new w _,by omega,by simp [maxLen];omega,by omega,?_⟩
       rw [hcl,Zv (by simp)]
      ·rw [upd_same] at hβ
       simp only [vblk] at hβ
       split at hβ
       ·cases hβ
       ·cases hβ
        exact ⟨by omega,fun _=>hp⟩)
    refine ⟨_,_,p,_,rfl,hs,hm2,?_⟩
    have:RepC (w.alloc (.cells c e)) p (upd g d (.slice (some ⟨w.heap.size,0,none⟩) len len)) (used (upd fr.st d (.rowB e l false))) (upd g d (.slice (some ⟨w.heap.size,0,none⟩) len len) d) (.row d) :=
     .row (by unfold used;rw [upd_same];simp) ⟨_,_,_,by rw [upd_same]⟩
    rw [upd_same] at this
    exact RepC.v this
   ·cases hk1
  ·cases hk
 ·rename_i e hkd
  rw [hkd] at a8
  obtain ⟨hu,hb8⟩:=kind_slice a8
  split at hk
  case h_2=>cases hk
  rename_i ei els0 hei hall0
  obtain ⟨info',z',b1,b2,b3,b4,b5,b6,b7,b8,b9,_⟩:=mkTI_info (hty _ _ hei)
  obtain ⟨hcond,hk1⟩:=bif_inv hk
  simp only [Zw] at hcond
  obtain ⟨⟨⟨hpl,hbig⟩,hpos⟩,hlen⟩:=hcond
  have hpl':=Zz hpl
  have hbig':=Zy hbig
  have hpos':0<ei.size:=Zy hpos
  have hlen0:0<len:=Zy hlen
  obtain ⟨as,st1,f1,p1,hk2,hs1,hm1,hpo⟩:=sim_outParts h hx hk1
  split at hk2
  case h_2=>cases hk2
  rename_i els hall
  have hel:els.length=len:=by rw [allParts_length hall,← partsO_length hpo,partsRep_length hx,hpl']
  obtain ⟨hall2,hk3⟩:=bif_inv hk2
  have hsz:∀ e∈els,e.cells.length=ei.size:=fun e he=>Zz (List.all_eq_true.1 hall2 e he)
  have hzs:z'.cells.size=info'.size:=by
   have:=(ofCells_rep (w:=w) (p:=p) b5).len
   simp at this
   omega
  obtain ⟨c,vs,hf,hc',hcv⟩:=fill_all (size:=ei.size) (j:=0) hpo hall hsz (c:=(Array.range (len*ei.size)).map (z'.cells[· % z'.cells.size]!)) (pre:=[]) (by simp) (by simp) (by simp [hel])
  have hcv':c.toList=vs:=by simpa using hc'
  subst hcv'
  have hrun:(Instr.buildSlice t len xs.toArray).run P w = .ok (.slice (some ⟨w.heap.size,0,none⟩) len len) (w.alloc (.cells c e)):=by
   have hne:len*ei.size≠0:=Nat.mul_ne_zero (by omega) (by omega)
   have hbg:¬ len*info'.size>2 ^ 24:=by rw [b2];omega
   rw [← b2] at hf hne
   have hbg':¬ 16777216<len*info'.size:=by omega
   simp only [Instr.buildSlice,Sem.run_bind,run_underlying hu,Result.andThen_ok,run_sizeOf b1]
   simp [hbg',hne,run_zeroValue b1 b4,hf,newRow]
  unfold newBlk at hk3
  split at hk3
  ·rename_i ht
   simp only at ht
   refine ⟨_,_,_,hk3,?_⟩
   rw [hrun]
   have hp:p1 w.heap.size=0:=hs1.newp _ (Zx _)
   have hcs:c.size=len*ei.size:=by
    have:=hcv.len
    rw [flat_length hsz,hel] at this
    simpa using this
   obtain ⟨hs,hm2⟩:=hs1.add (w':=w.alloc (.cells c e)) (p':=p1) (t:=d) (b := .rowL e ei.size els false) (v := .slice (some ⟨w.heap.size,0,none⟩) len len) ht (by simp) rfl rfl rfl (by simp)
    (fun β hβ=>⟨heap_push_old w _ hβ,rfl⟩) (fun _=>Zx _) (hs1.newp_alloc _) (fun β hβ=>by
     simp only [vblk] at hβ
     split at hβ
     ·cases hβ
     ·cases hβ;exact Zx _)
    (fun hm2=>by
     refine ⟨hpos',hsz,c.toList,⟨by rw [hel];simp [hcs],?_⟩,hcv.imp fun _ _=>hm2.repI,fun β hβ=> ?_⟩
     ·rw [upd_same]
      right
      exact ⟨w.heap.size,len,_,by rw [hel],hlen0,hs1.size,heap_push_new w _,by omega,by
       have:len*1≤len*ei.size:=Nat.mul_le_mul_left _ hpos'
       simp [maxLen];omega,hcs,by rw [hel,Zv (by simp [hcs])]⟩
     ·rw [upd_same] at hβ
      simp only [vblk] at hβ
      split at hβ
      ·cases hβ
      ·cases hβ
       exact ⟨by omega,fun _=>hp⟩)
   refine ⟨_,_,p1,_,rfl,hs,hm1.trans hm2,?_⟩
   have:RepC (w.alloc (.cells c e)) p1 (upd g d (.slice (some ⟨w.heap.size,0,none⟩) len len)) (used (upd st1 d (.rowL e ei.size els false))) (upd g d (.slice (some ⟨w.heap.size,0,none⟩) len len) d) (.row d) :=
    .row (by unfold used;rw [upd_same];simp) ⟨_,_,_,by rw [upd_same]⟩
   rw [upd_same] at this
   exact RepC.v this
  ·cases hk3
 ·cases hk
end
end Go.Abs
