/- Values that go out of a frame; stores. -/
import Derived.Test.YtmipfdjcnkljnaaAbsOps3
open Nat renaming eq_of_beq_eq_true→Zz,le_of_ble_eq_true→Zy,le_refl→Zw
open Bool renaming and_eq_true→Zx
open List renaming eq_nil_of_length_eq_zero→Zv,flatMap_cons→Zu
namespace Go.Abs
set_option linter.unusedVariables false
section
variable {P:Program} {B:Nat} {M:Nat→Prop} {w0:World} {p0:Prot} {w:World} {p:Prot} {g:Nat→Value}
theorem SInv.relabel {st:Nat→Blk} (h:SInv B M w0 p0 w p g st) {k:Nat} {b:Blk} {p':Prot} (hk:(st k).live) (hb:b.live) (hp:∀ β,vblk (g k)≠some β→p' β=p β)
  (hle:∀ β,vblk (g k)=some β→p β≤p' β) (hB0:∀ β,vblk (g k)=some β→β<B→M β∧p' β=p β)
  (hB:Mono w p g (used st) w p' g (used (upd st k b))→BlkOK w p' g (used (upd st k b)) B M k b) :
  SInv B M w0 p0 w p' g (upd st k b)∧Mono w p g (used st) w p' g (used (upd st k b)):=by
 have hbf:b ≠ .free:=fun e=>by rw [e] at hb;exact hb
 have hu:∀ j,used st j→used (upd st k b) j:=fun j hj=>used_upd hbf hj
 have hprot:∀ β,p β≤p' β:=fun β=>by
  by_cases e:vblk (g k)=some β
  ·exact hle β e
  ·rw [hp β e];exact Zw _
 refine h.change rfl rfl rfl (Zw _) (fun j=>j=k) (fun β=>vblk (g k)=some β) (fun j hj=>upd_ne _ _ hj) hu (fun _ _=>rfl) (fun β _ hd=>⟨rfl,hp β hd⟩) (fun β hd hlB=>hB0 β hd hlB) hprot (fun _ _ _=>rfl) ?_ ?_ ?_ ?_
 ·intro β hβ
  rw [hp β (fun e=>by have:=(h.blk k).vblk_lt hk e;omega)]
  exact h.newp β hβ
 ·intro j β hj hl hv hd
  exact h.dist j k β hj hl hk hv hd
 ·rintro j rfl
  rw [upd_same]
  exact hB ⟨hprot,fun _ _ _=>rfl,fun _ _=>rfl,hu⟩
 ·rintro j j' β rfl hne _ hl' hva hvb
  rw [upd_ne _ _ hne] at hl'
  exact h.dist j j' β (Ne.symm hne) hk hl' hva hvb
def raise (p:Prot) (o:Option Nat) (n:Nat):Prot:=fun β=>if o=some β then n else p β
theorem raise_same {p:Prot} {o:Option Nat} {n β:Nat} (h:o=some β):raise p o n β=n:=by simp [raise,h]
theorem raise_ne {p:Prot} {o:Option Nat} {n β:Nat} (h:o≠some β):raise p o n β=p β:=by simp [raise,h]
theorem publishB {st:Nat→Blk} (h:SInv B M w0 p0 w p g st) {k e:Nat} {l:List UInt8} {pub:Bool} (hk:st k = .rowB e l pub) :
  ∃ p',SInv B M w0 p0 w p' g (upd st k (.rowB e l true))∧Mono w p g (used st) w p' g (used (upd st k (.rowB e l true)))∧RepI w p' (g k) (.bs l):=by
 have hb:=h.blk k
 rw [hk] at hb
 obtain ⟨hrow,hp⟩:=hb
 have hB:∀ β,vblk (g k)=some β→B≤β:=fun β hv=>by
  obtain ⟨_,⟨_,a,hg⟩ | ⟨β',cap,cur,hg,h0,hB,_⟩⟩:=hrow
  ·rw [hg] at hv;cases a<;>simp [vblk] at hv
  ·rw [hg] at hv;have:β'=β:=by simp [vblk] at hv;exact hv.2
   omega
 obtain ⟨hs,hm⟩:=h.relabel (k:=k) (b := .rowB e l true) (p':=raise p (vblk (g k)) l.length) (by rw [hk];trivial) trivial (fun β hv=>raise_ne hv)
  (fun β hv=>by rw [raise_same hv];exact (hp β hv).1) (fun β hv hlt=>by have:=hB β hv;omega)
  (fun hm=>⟨hrow,fun β hv=>⟨by rw [raise_same hv];exact Zw _,fun e=>by cases e⟩⟩)
 refine ⟨_,hs,hm,?_⟩
 obtain ⟨hlen,⟨hn,a,hg⟩ | ⟨β,cap,cur,hg,h0,hB',hh,hnc,hcm,hcs,htake⟩⟩:=hrow
 ·have:l=[]:=Zv hn
  subst this
  rw [hg]
  exact .bs 0 0 rfl (Zw _) (.inl rfl) (fun i b hi=>by simp at hi)
 ·rw [hg]
  refine .bs β 0 rfl hnc (.inr rfl) fun i b hi=>⟨?_,?_⟩
  ·rw [raise_same (by simp [vblk];omega)]
   have:=(List.getElem?_eq_some_iff.1 hi).1
   omega
  ·rw [cell_heap hh]
   have h1:(l.map u8v)[i]? = some (u8v b):=by simp [hi]
   rw [← htake,List.getElem?_take] at h1
   split at h1
   ·simpa using h1
   ·cases h1
theorem publishL {st:Nat→Blk} (h:SInv B M w0 p0 w p g st) {k e z:Nat} {l:List AV} {pub:Bool} (hk:st k = .rowL e z l pub) :
  ∃ p',SInv B M w0 p0 w p' g (upd st k (.rowL e z l true))∧Mono w p g (used st) w p' g (used (upd st k (.rowL e z l true)))∧RepI w p' (g k) (.sl z l):=by
 have hb:=h.blk k
 rw [hk] at hb
 obtain ⟨hz,hsz,vs,hrow,hcells,hp⟩:=hb
 have hB:∀ β,vblk (g k)=some β→B≤β:=fun β hv=>by
  obtain ⟨_,⟨_,a,hg⟩ | ⟨β',cap,cur,hg,h0,hB,_⟩⟩:=hrow
  ·rw [hg] at hv;cases a<;>simp [vblk] at hv
  ·rw [hg] at hv;have:β'=β:=by simp [vblk] at hv;exact hv.2
   omega
 obtain ⟨hs,hm⟩:=h.relabel (k:=k) (b := .rowL e z l true) (p':=raise p (vblk (g k)) (l.length*z)) (by rw [hk];trivial) trivial (fun β hv=>raise_ne hv)
  (fun β hv=>by rw [raise_same hv];exact (hp β hv).1) (fun β hv hlt=>by have:=hB β hv;omega)
  (fun hm=>⟨hz,hsz,vs,hrow,hcells.imp fun _ _=>hm.repI,fun β hv=>⟨by rw [raise_same hv];exact Zw _,fun e=>by cases e⟩⟩)
 refine ⟨_,hs,hm,?_⟩
 have hfl:=flat_length hsz
 obtain ⟨hlen,⟨hn,a,hg⟩ | ⟨β,cap,cur,hg,h0,hB',hh,hnc,hcm,hcs,htake⟩⟩:=hrow
 ·have:l=[]:=Zv hn
  subst this
  rw [hg]
  exact .sl 0 0 (fun _=>undef) rfl (Zw _) (fun _ h=>by cases h) (.inl rfl) (fun i b hi=>by simp at hi) (fun i b hi=>by simp at hi)
 ·have hc':=hcells.imp fun v c hvc=>hm.repI hvc
  rw [hg] at hc' ⊢
  refine .sl β 0 (fun j=>vs.getD j undef) rfl hnc hsz (.inr rfl) (fun j c hj=>⟨?_,?_⟩) (fun j c hj=> ?_)
  ·rw [raise_same (by simp [vblk];omega)]
   have:=(List.getElem?_eq_some_iff.1 hj).1
   omega
  ·obtain ⟨v,hv,_⟩:=hc'.get hj
   rw [cell_heap hh]
   have h1:=hv
   rw [← htake,List.getElem?_take] at h1
   split at h1
   ·simp [hv];simpa using h1
   ·cases h1
  ·obtain ⟨v,hv,hr⟩:=hc'.get hj
   simp [hv]
   exact hr
def RepO (w:World) (p:Prot) (v:Value) (a:AV):Prop:=RepI w p v a∨∃ arr cs,v = .agg arr∧a = .agg cs∧Cells (RepI w p) arr.toList cs
theorem RepO.v {u:Nat→Prop} {v:Value} {a:AV} (h:RepO w p v a):RepV w p g u v a:=by
 rcases h with h | ⟨arr,cs,rfl,rfl,h⟩
 ·exact h.v
 ·exact .inr (.inl (.inr ⟨arr,cs,rfl,rfl,h.imp fun _ _ => .imm⟩))
theorem RepO.mono {w':World} {p':Prot} (hp:∀ β,p β≤p' β) (hc:∀ β i,i<p β→w'.cell? ⟨β,i,none⟩=w.cell? ⟨β,i,none⟩) {v:Value} {a:AV} (h:RepO w p v a):RepO w' p' v a:=by
 rcases h with h | ⟨arr,cs,rfl,rfl,h⟩
 ·exact .inl (h.mono hp hc)
 ·exact .inr ⟨arr,cs,rfl,rfl,h.imp fun _ _ hh=>hh.mono hp hc⟩
theorem RepO.cells {v:Value} {a:AV} (h:RepO w p v a):Cells (RepI w p) v.cells.toList a.cells:=by
 rcases h with h | ⟨arr,cs,rfl,rfl,h⟩
 ·rw [h.cell1.1,h.cell1.2.2.1];exact .cons h .nil
 ·exact h
def Pres (st st':Nat→Blk):Prop:=∀ b cs,st b = .cells cs→st' b = .cells cs
theorem Pres.refl {st:Nat→Blk}:Pres st st:=fun _ _ h=>h
theorem Pres.trans {a b c:Nat→Blk} (h:Pres a b) (k:Pres b c):Pres a c:=fun x cs hx=>k x cs (h x cs hx)
theorem Pres.upd {st:Nat→Blk} {r:Nat} {x:Blk} (h:∀ cs,st r ≠ .cells cs):Pres st (Abs.upd st r x):=fun b cs hb=>by
 rw [upd_ne _ _ (fun e=>by subst e;exact h cs hb)];exact hb
theorem sim_out1' {α:Type} {st:Nat→Blk} (h:SInv B M w0 p0 w p g st) {c:CT} {x:Value} {v:AV} (hx:RepV w p g (used st) x v) {k:AV→(Nat→Blk)→FP→Option α} {r:α} (hk:out1 c v st k=some r) :
  ∃ a st' fp p',k a st' fp=some r∧SInv B M w0 p0 w p' g st'∧Mono w p g (used st) w p' g (used st')∧RepI w p' x a∧Pres st st':=by
 unfold out1 at hk
 split at hk
 ·obtain ⟨a,rfl⟩:=hx.nils
  exact ⟨_,_,_,p,hk,h,Mono.refl,.bs 0 0 rfl (Zw _) (.inl rfl) (fun i b hi=>by simp at hi),Pres.refl⟩
 ·obtain ⟨a,rfl⟩:=hx.nils
  exact ⟨_,_,_,p,hk,h,Mono.refl,.sl 0 0 (fun _=>undef) rfl (Zw _) (fun _ h=>by cases h) (.inl rfl) (fun i b hi=>by simp at hi) (fun i b hi=>by simp at hi),Pres.refl⟩
 ·rename_i r'
  obtain ⟨hu,rfl,_⟩:=hx.row
  split at hk
  ·rename_i e l pub hst
   obtain ⟨p',hs,hm,hr⟩:=publishB h hst
   exact ⟨_,_,_,p',hk,hs,hm,hr,Pres.upd (fun cs e=>by rw [hst] at e;cases e)⟩
  ·rename_i e z l pub hst
   obtain ⟨p',hs,hm,hr⟩:=publishL h hst
   exact ⟨_,_,_,p',hk,hs,hm,hr,Pres.upd (fun cs e=>by rw [hst] at e;cases e)⟩
  ·cases hk
 ·obtain ⟨rfl,hn⟩:=hx.int
  exact ⟨_,_,_,p,hk,h,Mono.refl,.int hn,Pres.refl⟩
 ·have e:=hx.u8;subst e
  exact ⟨_,_,_,p,hk,h,Mono.refl,.u8,Pres.refl⟩
 ·have e:=hx.bool;subst e
  exact ⟨_,_,_,p,hk,h,Mono.refl,.bool,Pres.refl⟩
 ·obtain ⟨s,rfl,hs⟩:=hx.str
  exact ⟨_,_,_,p,hk,h,Mono.refl,.str hs,Pres.refl⟩
 ·exact ⟨_,_,_,p,hk,h,Mono.refl,hx.bs,Pres.refl⟩
 ·exact ⟨_,_,_,p,hk,h,Mono.refl,hx.sl,Pres.refl⟩
 ·have:RepI w p x .nilp:=by
   rcases hx with hx | (hx | ⟨arr,cs,_,hx,_⟩) | ⟨arr,cs,_,hx,_⟩<;>first | cases hx
   assumption
  exact ⟨_,_,_,p,hk,h,Mono.refl,this,Pres.refl⟩
 ·exact ⟨_,_,_,p,hk,h,Mono.refl,hx.rptr,Pres.refl⟩
 ·cases hk
theorem sim_out1 {α:Type} {st:Nat→Blk} (h:SInv B M w0 p0 w p g st) {c:CT} {x:Value} {v:AV} (hx:RepV w p g (used st) x v) {k:AV→(Nat→Blk)→FP→Option α} {r:α} (hk:out1 c v st k=some r) :
  ∃ a st' fp p',k a st' fp=some r∧SInv B M w0 p0 w p' g st'∧Mono w p g (used st) w p' g (used st')∧RepI w p' x a:=by
 obtain ⟨a,st',fp,p',h1,h2,h3,h4,_⟩:=sim_out1' h hx hk
 exact ⟨a,st',fp,p',h1,h2,h3,h4⟩
theorem sim_outCs' {α:Type}:∀ {cts:List CT} {vs:List AV} {xs:List Value} {st:Nat→Blk} {p:Prot},SInv B M w0 p0 w p g st→Cells (RepC w p g (used st)) xs vs→∀ {k:List AV→(Nat→Blk)→FP→Option α} {r:α},
  outCs cts vs st k=some r→∃ as st' fp p',k as st' fp=some r∧SInv B M w0 p0 w p' g st'∧Mono w p g (used st) w p' g (used st')∧Cells (RepI w p') xs as∧Pres st st'
 | [],[],xs,st,p,h,hx,k,r,hk=>by
  simp only [outCs] at hk
  have:=hx.nil_iff
  subst this
  exact ⟨_,_,_,p,hk,h,Mono.refl,.nil,Pres.refl⟩
 | c::cs,v::vs,xs,st,p,h,hx,k,r,hk=>by
  simp only [outCs] at hk
  obtain ⟨x,xs',rfl,h1,h2⟩:=hx.uncons
  obtain ⟨a,st1,f1,p1,hk1,hs1,hm1,hr1,hp1⟩:=sim_out1' h h1.v hk
  obtain ⟨as,st2,f2,p2,hk2,hs2,hm2,hr2,hp2⟩:=sim_outCs' hs1 (h2.imp fun _ _=>hm1.repC) hk1
  exact ⟨_,_,_,p2,hk2,hs2,hm1.trans hm2,.cons (hm2.repI hr1) hr2,hp1.trans hp2⟩
 | [],_::_,_,_,_,_,_,_,_,hk=>by simp [outCs] at hk
 | _::_,[],_,_,_,_,_,_,_,hk=>by simp [outCs] at hk
theorem sim_out' {α:Type} {st:Nat→Blk} (h:SInv B M w0 p0 w p g st) {i:TI} {x:Value} {v:AV} (hx:RepV w p g (used st) x v) {k:AV→(Nat→Blk)→FP→Option α} {r:α} (hk:out i v st k=some r) :
  ∃ a st' fp p',k a st' fp=some r∧SInv B M w0 p0 w p' g st'∧Mono w p g (used st) w p' g (used st')∧RepO w p' x a∧Pres st st':=by
 unfold out at hk
 split at hk
 ·obtain ⟨arr,rfl,hc⟩:=hx.agg
  obtain ⟨as,st',fp,p',hk',hs,hm,hr,hp⟩:=sim_outCs' h hc hk
  exact ⟨_,_,_,p',hk',hs,hm,.inr ⟨arr,as,rfl,rfl,hr⟩,hp⟩
 ·split at hk
  ·obtain ⟨a,st',fp,p',hk',hs,hm,hr,hp⟩:=sim_out1' h hx hk
   exact ⟨_,_,_,p',hk',hs,hm,.inl hr,hp⟩
  ·cases hk
 ·cases hk
theorem sim_out {α:Type} {st:Nat→Blk} (h:SInv B M w0 p0 w p g st) {i:TI} {x:Value} {v:AV} (hx:RepV w p g (used st) x v) {k:AV→(Nat→Blk)→FP→Option α} {r:α} (hk:out i v st k=some r) :
  ∃ a st' fp p',k a st' fp=some r∧SInv B M w0 p0 w p' g st'∧Mono w p g (used st) w p' g (used st')∧RepO w p' x a:=by
 obtain ⟨a,st',fp,p',h1,h2,h3,h4,_⟩:=sim_out' h hx hk
 exact ⟨a,st',fp,p',h1,h2,h3,h4⟩
def GoodU (B:Nat) (M:Nat→Prop) (w0:World) (p0:Prot) (w:World) (p:Prot) (g:Nat→Value) (st:Nat→Blk) (st':Nat→Blk) (r:Result Unit):Prop :=
 ∃ w' p' g',r = .ok () w'∧SInv B M w0 p0 w' p' g' st'∧Mono w p g (used st) w' p' g' (used st')
theorem set_split {β:Type} (c:List β) (j:Nat) (x:β) (h:j<c.length):c.take j++[x]++c.drop (j+1)=c.set j x:=by
 rw [List.set_eq_take_append_cons_drop,if_pos h];simp
theorem cells_place {R:Value→AV→Prop} {vs us:List Value} {cs ds:List AV} (h:Cells R vs cs) (k:Cells R us ds) (off:Nat) :
  Cells R (vs.take off++us++vs.drop (off+us.length)) (place cs off ds):=by
 unfold place
 rw [k.len]
 exact ((h.take off).append k).append (h.drop _)
theorem run_storeVar {t:Nat} {i:TI} (hi:mkTI P t=some i) {β off:Nat} {c:Array Value} {e:TypeId} (hh:w.heap[β]? = some (.cells c e (0,0))) {v:Value} (hl:v.cells.size=i.size) (hfit:off+i.size≤c.size)
  (h1:∀ x∈v.cells.toList,x.oneCell'=true) :
  (storeVar t ⟨β,off,none⟩ v).run P w = .ok () (w.setRow β (c.toList.take off++v.cells.toList++c.toList.drop (off+v.cells.toList.length)).toArray):=by
 obtain ⟨info,z,a1,a2,a3,a4,a5,a6,a7,a8,a9,_⟩:=mkTI_info hi
 have hst:=run_storeCells_at (P:=P) β off e v.cells.toList 0 c w hh (by simp;omega) h1
 simp only [Nat.add_zero] at hst
 simp [storeVar,run_sizeOf a1,a2,hl,hst]
theorem place_left (a b:List AV) (off:Nat) (n:List AV) (h:off+n.length≤a.length):place (a++b) off n=place a off n++b:=by
 unfold place
 rw [List.take_append_of_le_length (by omega),List.drop_append_of_le_length h]
 simp
theorem place_right (a b:List AV) (q:Nat) (n:List AV):place (a++b) (a.length+q) n=a++place b q n:=by
 unfold place
 rw [List.take_append,List.drop_append,List.take_of_length_le (by omega),List.drop_of_length_le (by omega)]
 rw [show a.length+q-a.length=q by omega,show a.length+q+n.length-a.length=q+n.length by omega]
 simp
theorem flat_set {sz off:Nat} {news:List AV}:∀ {els:List AV} {j:Nat} {x x':AV},els[j]? = some x→(∀ y∈els,y.cells.length=sz)→x'.cells=place x.cells off news→off+news.length≤sz →
  (els.set j x').flatMap AV.cells=place (els.flatMap AV.cells) (j*sz+off) news
 | [],j,x,x',h,_,_,_=>by simp at h
 | y::r,0,x,x',h,hs,hx,hf=>by
  simp at h
  subst h
  have hy:=hs y (by simp)
  rw [List.set_cons_zero,Zu,Zu,hx,Nat.zero_mul,Nat.zero_add,place_left _ _ _ _ (by omega)]
 | y::r,j+1,x,x',h,hs,hx,hf=>by
  simp at h
  have hy:=hs y (by simp)
  have ih:=flat_set h (fun z hz=>hs z (by simp [hz])) hx hf
  rw [List.set_cons_succ,Zu,Zu,ih]
  rw [show (j+1)*sz+off=y.cells.length+(j*sz+off) by rw [hy,Nat.add_mul];omega,place_right]
theorem place_length (cs:List AV) (off:Nat) (n:List AV) (h:off+n.length≤cs.length):(place cs off n).length=cs.length:=by
 unfold place;simp;omega
theorem take_set_row {c:List Value} {n q:Nat} {us:List Value} (h:q+us.length≤n) (hn:n≤c.length):(c.take q++us++c.drop (q+us.length)).take n=(c.take n).take q++us++(c.take n).drop (q+us.length):=by
 apply List.ext_getElem?
 intro i
 simp only [List.getElem?_take,List.getElem?_append,List.getElem?_drop,List.length_append,List.length_take]
 by_cases h1:i<n
 ·by_cases h2:i<q
  ·have e1:i<min q c.length+us.length:=by omega
   have e2:i<min q c.length:=by omega
   have e3:i<min q (min n c.length)+us.length:=by omega
   have e4:i<min q (min n c.length):=by omega
   simp [h1,h2,e1,e2,e3,e4]
  ·by_cases h3:i<q+us.length
   ·have e1:i<min q c.length+us.length:=by omega
    have e2:¬ i<min q c.length:=by omega
    have e3:i<min q (min n c.length)+us.length:=by omega
    have e4:¬ i<min q (min n c.length):=by omega
    simp [h1,e1,e2,e3,e4]
    congr 1
    omega
   ·have e1:¬ i<min q c.length+us.length:=by omega
    have e3:¬ i<min q (min n c.length)+us.length:=by omega
    have e5:q+us.length+(i-(min q (min n c.length)+us.length))<n:=by omega
    simp [h1,e1,e3]
    rw [if_pos (by omega)]
    congr 1
    omega
 ·have e1:¬ i<min q (min n c.length)+us.length:=by omega
  simp [h1,e1]
  intro h5
  omega
theorem sim_doStore {α:Type} {E:Env} (hty:∀ t i,E.ty t=some i→mkTI P t=some i) {fr:Fr} {t:Nat} {i:TI} (hi:mkTI P t=some i) (h:SInv B M w0 p0 w p g fr.st) {x y:Value} {a b:AV} (hx:RepV w p g (used fr.st) x a) (hy:RepV w p g (used fr.st) y b) {k:Ret α} {r:α}
  (hk:doStore E fr i a b k=some r):∃ st' fp,k .undef st' fp=some r∧GoodU B M w0 p0 w p g fr.st st' ((Instr.storeAt t x y).run P w):=by
 unfold doStore at hk
 split at hk
 ·rename_i kk off
  obtain ⟨hu,β,hg,rfl⟩:=hx.ptr
  have hb:=h.blk kk
  split at hk
  ·rename_i cs hst
   rw [hst] at hb
   obtain ⟨β',c,e,h1,h2,h3,h4,h5⟩:=hb
   have:β'=β:=by rw [h1] at hg;cases hg;rfl
   subst this
   obtain ⟨hcond,hk2⟩:=bif_inv hk
   simp only [Zx,beq_iff_eq] at hcond
   obtain ⟨⟨hlen,hfit⟩,hcell⟩:=hcond
   have hfit':off+i.size≤cs.length:=Zy hfit
   have hyc:=hy.cells hcell
   rw [placeL_eq _ _ _ (by rw [hlen];exact hfit')] at hk2
   refine ⟨_,_,hk2,?_⟩
   have hsz:y.cells.size=i.size:=by have:=hyc.len;simp at this;omega
   have hcsz:c.size=cs.length:=by have:=h4.len;simpa using this
   have hrun:=run_storeVar (P:=P) (w:=w) hi h3 (v:=y) (off:=off) hsz (by omega) hyc.one
   obtain ⟨hs,hm⟩:=h.modify (k:=kk) (b := .cells (place cs off b.cells)) (w':=w.setRow β' (c.toList.take off++y.cells.toList++c.toList.drop (off+y.cells.toList.length)).toArray) (p':=p) (β₀:=β') (by rw [hst];trivial) trivial (by rw [h1];rfl)
    rfl rfl rfl (by simp) (fun β hne=>⟨setRow_other w β' β _ hne,rfl⟩) (fun hlt=>⟨by rcases h2 with h2 | h2;exact h2;omega,rfl⟩) (Zw _) (fun i hi=>by rw [h5] at hi;omega)
    (fun hm=>⟨β',_,e,h1,h2,setRow_heap w β' c _ e _ h3,by
     have:=cells_place h4 hyc off
     simpa using this.imp fun _ _=>hm.repC,h5⟩)
   exact ⟨_,p,g,by simpa [Instr.storeAt,Instr.sureAddr] using hrun,hs,hm⟩
  ·cases hk
 ·rename_i kk j sz off
  obtain ⟨hu,β,hg,rfl⟩:=hx.eptr
  have hb:=h.blk kk
  have key:∀ (l:List UInt8) (c:Array Value) (e:TypeId) (n:Nat) (pub:Bool) (mk:List UInt8→Blk),w.heap[β]? = some (.cells c e (0,0))→c.toList.take n=l.map u8v→(pub=false→p β=0)→B≤β→(fr.st kk).live→(∀ l,(mk l).live) →
    (∀ (xb:UInt8),j<l.length→pub=false→∀ (w':World),w'.heap[β]? = some (.cells (c.toList.set j (u8v xb)).toArray e (0,0))→∀ u',BlkOK w' p g u' B M kk (mk (l.set j xb))) →
    (b.onU8 fun x=>chk (Nat.blt j l.length&&Nat.beq off 0&&Nat.beq sz 1&&Nat.beq i.size 1 && !pub) (k .undef (upd fr.st kk (mk (l.set j x))) ⟨[kk],[kk]⟩))=some r →
    ∃ st' fp,k .undef st' fp=some r∧GoodU B M w0 p0 w p g fr.st st' ((Instr.storeAt t (.pointer (some ⟨β,j*sz+off,none⟩)) y).run P w):=by
   intro l c e n pub mk hh htake hp hBβ hlive hlive' hbok hk2
   unfold AV.onU8 at hk2
   split at hk2
   ·rename_i _ xb
    have hyv:=hy.u8
    subst hyv
    obtain ⟨hcond,hk3⟩:=chk_inv hk2
    simp only [Zx,Bool.not_eq_true'] at hcond
    obtain ⟨⟨⟨⟨hj,ho⟩,hs⟩,hs1⟩,hpub⟩:=hcond
    have hlt:j<l.length:=Zy hj
    have hsz:i.size=1:=Zz hs1
    have ho':=Zz ho
    have hs':=Zz hs
    subst ho';subst hs';subst hpub
    have hjc:j<c.size:=by
     have:=congrArg List.length htake
     simp at this
     omega
    have hrun:=run_storeVar (P:=P) (w:=w) hi hh (v:=u8v xb) (off:=j) (by simp [u8v,Value.cells,hsz]) (by omega) (fun x hx=>by simp [u8v,Value.cells] at hx;subst hx;rfl)
    refine ⟨_,_,hk3,?_⟩
    have hcells:(u8v xb).cells.toList=[u8v xb]:=rfl
    rw [hcells] at hrun
    simp only [List.length_singleton] at hrun
    rw [set_split _ _ _ (by simpa using hjc)] at hrun
    obtain ⟨hs,hm⟩:=h.modify (k:=kk) (b:=mk (l.set j xb)) (w':=w.setRow β (c.toList.set j (u8v xb)).toArray) (p':=p) (β₀:=β) hlive (hlive' _) hg
     rfl rfl rfl (by simp) (fun β' hne=>⟨setRow_other w β β' _ hne,rfl⟩) (fun hlt=>by omega) (Zw _) (fun i hi=>by rw [hp rfl] at hi;omega)
     (fun hm=>hbok xb hlt rfl _ (setRow_heap w β c _ e _ hh) _)
    exact ⟨_,p,g,by simpa [Instr.storeAt,Instr.sureAddr] using hrun,hs,hm⟩
   ·cases hk2
  split at hk
  ·rename_i e l pub hst
   rw [hst] at hb
   obtain ⟨⟨hlen,⟨hn,a,hv⟩ | ⟨β',cap,cur,hv,h0,hB,hh,hnc,hcm,hcs,htake⟩⟩,hp⟩:=hb
   ·rw [hv] at hg;cases a<;>simp [vblk] at hg
   ·have hbe:β'=β:=by rw [hv] at hg;simp [vblk] at hg;exact hg.2
    subst hbe
    refine key l cur e _ pub (fun l => .rowB e l false) hh htake ((hp β' hg).2) hB (by rw [hst];trivial) (fun _=>trivial) ?_ hk
    intro xb hlt hpub w' hw' u'
    refine ⟨⟨by simp,.inr ⟨β',cap,_,hv.trans (by simp),h0,hB,hw',by simpa using hnc,hcm,?_,?_⟩⟩,fun β hvb=> ?_⟩
    ·simpa using hcs
    ·simp only [List.length_set]
     rw [List.take_set,htake,List.map_set]
    ·rw [hg] at hvb;cases hvb
     exact ⟨by rw [(hp β' hg).2 hpub];exact Nat.zero_le _,fun _=>(hp β' hg).2 hpub⟩
  ·rename_i l pub hst
   rw [hst] at hb
   obtain ⟨β',c,e,h1,h2,h3,h4,h5,h6⟩:=hb
   have hbe:β'=β:=by rw [h1] at hg;simp [vblk] at hg;exact hg
   subst hbe
   refine key l c e c.size pub (fun l => .barr l false) h3 (by rw [List.take_of_length_le (by simp)];exact h4) h6 h2 (by rw [hst];trivial) (fun _=>trivial) ?_ hk
   intro xb hlt hpub w' hw' u'
   refine ⟨β',_,e,h1,h2,hw',?_,by rw [h6 hpub];exact Nat.zero_le _,fun _=>h6 hpub⟩
   show c.toList.set j (u8v xb)=_
   rw [h4,List.map_set]
  ·rename_i e z l pub hst
   split at hk
   ·rename_i ei hei
    obtain ⟨hcond,hk2⟩:=chk_inv hk
    simp only [Zx,Bool.not_eq_true'] at hcond
    obtain ⟨⟨hj0,hz⟩,hpub0⟩:=hcond
    have hz':=Zz hz
    subst hz'
    obtain ⟨v',st1,f1,p1,hk3,hs1,hm1,hr1⟩:=sim_out h hy hk2
    have hb1:=hs1.blk kk
    split at hk3
    ·rename_i e1 z1 l1 hst1
     have hk4:=norm_inv hk3
     obtain ⟨hcond,hk5⟩:=bif_inv hk4
     simp only [Zx,beq_iff_eq] at hcond
     obtain ⟨⟨⟨⟨hlv,hfit⟩,hpos⟩,hzz⟩,hjb⟩:=hcond
     have hzz':=Zz hzz
     subst hzz'
     have hfit':=Zy hfit
     have hpos':0<i.size:=Zy hpos
     have hjl:j<l1.length:=Zy hjb
     rw [hst1] at hb1
     obtain ⟨hz0,hsz,vs,hrow,hcells,hp⟩:=hb1
     obtain ⟨hlen,⟨hn,a,hv⟩ | ⟨β',cap,cur,hv,h0,hB,hh,hnc,hcm,hcs,htake⟩⟩:=hrow
     ·omega
     ·have hbe:β'=β:=by rw [hv] at hg;simp [vblk] at hg;exact hg.2
      subst hbe
      have hel:l1[j]? = some (l1.getD j .undef):=by simp [hjl]
      have hold:(l1.getD j .undef).cells.length=z1:=hsz _ (List.mem_of_getElem? hel)
      have hvc:=hr1.cells
      have hvl:y.cells.toList.length=i.size:=by rw [hvc.len,hlv]
      have hvs:y.cells.size=i.size:=by simpa using hvl
      have hp0:=(hp β' hg).2 rfl
      have hge:(j+1)*z1≤l1.length*z1:=Nat.mul_le_mul_right z1 hjl
      rw [Nat.add_mul] at hge
      have hge2:l1.length*z1≤cap*z1:=Nat.mul_le_mul_right z1 hnc
      have hrun:=run_storeVar (P:=P) (w:=w) hi hh (v:=y) (off:=j*z1+off) hvs (by rw [hcs];omega) hvc.oneI
      obtain ⟨info,z,a1,a2,a3,a4,a5,a6,a7,a8,a9,_⟩:=mkTI_info (hty _ _ hei)
      have hxc:(setEl ei (l1.getD j .undef) off v'.cells).cells=place (l1.getD j .undef).cells off v'.cells:=by
       unfold setEl
       split
       ·rfl
       ·rename_i hagg
        have hc1:=norm_cell hk3 hagg
        have hz1:z1=1:=by rw [← hold,hc1];rfl
        have hl1:v'.cells.length=1:=by rw [hc1] at hfit';simp at hfit';omega
        have ho0:off=0:=by rw [hc1] at hfit';simp at hfit';omega
        obtain ⟨c,hcc⟩:=List.length_eq_one_iff.1 hl1
        rw [hcc] at hvc ⊢
        obtain ⟨cv,_,_,hcr,_⟩:=hvc.uncons
        rw [hc1,ho0]
        simp [place,hcr.cell1.2.2.1]
      refine ⟨_,_,hk5,?_⟩
      obtain ⟨hs2,hm2⟩:=hs1.modify (k:=kk) (b := .rowL e1 z1 (l1.set j (setEl ei (l1.getD j .undef) off v'.cells)) false) (w':=w.setRow β' (cur.toList.take (j*z1+off)++y.cells.toList++cur.toList.drop (j*z1+off+y.cells.toList.length)).toArray) (p':=p1) (β₀:=β')
       (by rw [hst1];trivial) trivial hg rfl rfl rfl (by simp) (fun β hne=>⟨setRow_other w β' β _ hne,rfl⟩) (fun hlt=>by omega) (Zw _) (fun q hq=>by rw [hp0] at hq;omega)
       (fun hm=>by
        refine ⟨hz0,fun q hq=> ?_,vs.take (j*z1+off)++y.cells.toList++vs.drop (j*z1+off+y.cells.toList.length),⟨?_,.inr ⟨β',cap,_,hv.trans (by simp),h0,hB,setRow_heap w β' cur _ e1 _ hh,by simpa using hnc,hcm,?_,?_⟩⟩,?_,fun β hvb=> ?_⟩
        ·rcases List.mem_or_eq_of_mem_set hq with hq | rfl
         ·exact hsz q hq
         ·rw [hxc,place_length _ _ _ (by rw [hlv];omega),hold]
        ·simp;omega
        ·simp;omega
        ·simp only [List.length_set]
         rw [take_set_row (by omega) (by simp;omega),htake]
        ·rw [flat_set hel hsz hxc (by rw [hlv,← hold];omega)]
         have:=cells_place hcells (hvc) (j*z1+off)
         exact this.imp fun _ _=>hm.repI
        ·rw [hg] at hvb;cases hvb
         exact ⟨by rw [hp0];exact Nat.zero_le _,fun _=>hp0⟩)
      exact ⟨_,p1,g,by simpa [Instr.storeAt,Instr.sureAddr] using hrun,hs2,hm1.trans hm2⟩
    ·cases hk3
   ·cases hk
  ·cases hk
 ·cases hk
end
end Go.Abs
/- Fields, indexes, lengths, conversions, cuts. -/
namespace Go.Abs
set_option linter.unusedVariables false
section
variable {P:Program} {B:Nat} {M:Nat→Prop} {w0:World} {p0:Prot} {w:World} {p:Prot} {g:Nat→Value}
theorem run_fieldAt {t:Nat} {i:TI} (hi:mkTI P t=some i) {f:Nat} {q:Nat×Nat} (hf:fieldOf i f=some q) (β off:Nat) :
  (Instr.fieldAt t (.pointer (some ⟨β,off,none⟩)) f).run P w = .ok (.pointer (some ⟨β,off+q.1,none⟩)) w:=by
 obtain ⟨info,z,a1,a2,a3,a4,a5,a6,a7,a8,a9,_⟩:=mkTI_info hi
 unfold fieldOf at hf
 split at hf
 ·rename_i fs hk
  rw [hk] at a8
  obtain ⟨fields,hu,hall,rfl⟩:=kind_struct a8
  rw [List.getElem?_map] at hf
  cases hq:fields.toList[f]? with
  | none=>simp [hq] at hf
  | some fd =>
   simp [hq] at hf
   subst hf
   have hsz:=(hall fd (List.mem_of_getElem? hq)).1
   unfold sized at hsz
   split at hsz
   ·rename_i j hj
    have hpos:0<j.size:=Zy hsz
    have hne:j.size≠0:=by omega
    have hq':fields[f]? = some fd:=by simpa using hq
    simp [Instr.fieldAt,run_underlying hu,hq',Instr.sureAddr,fieldPlace,run_sizeOf hj,hne,addr_add]
   ·cases hsz
 ·cases hf
theorem sim_fieldAddr {α:Type} {fr:Fr} {t f:Nat} {i:TI} (hi:mkTI P t=some i) (h:SInv B M w0 p0 w p g fr.st) {q:Nat×Nat} (hf:fieldOf i f=some q) {x:Value} {v:AV} (hx:RepV w p g (used fr.st) x v) {k:Ret α} {r:α}
  (hk:doFieldAddr fr q.1 v k=some r) :
  ∃ v' fp,k v' fr.st fp=some r∧Good B M w0 p0 w p g fr.st v' fr.st ((Instr.fieldAt t x f).run P w):=by
 unfold doFieldAddr at hk
 split at hk
 ·rename_i b off
  obtain ⟨hu,β,hg,rfl⟩:=hx.ptr
  exact ⟨_,_,hk,Good.same h (run_fieldAt hi hf β off) (RepC.v (.ptr hu hg))⟩
 ·rename_i cs
  have hr:=hx.rptr
  cases hr with
  | rptr vs hc hr =>
   rename_i β off
   refine ⟨_,_,hk,Good.same h (run_fieldAt hi hf β off) (RepI.v (.rptr (fun j=>vs (q.1+j)) (fun j c hj=> ?_) (fun j c hj=> ?_)))⟩
   ·rw [List.getElem?_drop] at hj
    have:=hc _ c hj
    rw [Nat.add_assoc]
    exact this
   ·rw [List.getElem?_drop] at hj
    exact hr _ c hj
 ·rename_i b j sz off
  obtain ⟨hu,β,hg,rfl⟩:=hx.eptr
  refine ⟨_,_,hk,Good.same h (run_fieldAt hi hf β _) (RepC.v ?_)⟩
  rw [Nat.add_assoc]
  exact .eptr hu hg
 ·cases hk
theorem sim_field {α:Type} {fr:Fr} {t f:Nat} {i fi:TI} (hi:mkTI P t=some i) (h:SInv B M w0 p0 w p g fr.st) {q:Nat×Nat} (hf:fieldOf i f=some q) (hfi:mkTI P q.2=some fi) {x:Value} {v:AV} (hx:RepV w p g (used fr.st) x v) {k:Ret α} {r:α}
  (hk:(v.onAgg fun cs=>loadCells fi (cs.drop q.1) fun v=>k v fr.st .none)=some r) :
  ∃ v' fp,k v' fr.st fp=some r∧Good B M w0 p0 w p g fr.st v' fr.st ((Instr.field t x f).run P w):=by
 obtain ⟨cs,rfl,hk⟩:=onAgg_inv hk
 obtain ⟨arr,rfl,hc⟩:=hx.agg
 obtain ⟨info,z,a1,a2,a3,a4,a5,a6,a7,a8,a9,_⟩:=mkTI_info hi
 obtain ⟨info',z',b1,b2,b3,b4,b5,b6,b7,b8,b9,_⟩:=mkTI_info hfi
 unfold fieldOf at hf
 split at hf
 ·rename_i fs hkd
  rw [hkd] at a8
  obtain ⟨fields,hu,hall,rfl⟩:=kind_struct a8
  rw [List.getElem?_map] at hf
  cases hq:fields.toList[f]? with
  | none=>simp [hq] at hf
  | some fd =>
   simp [hq] at hf
   subst hf
   have hq':fields[f]? = some fd:=by simpa using hq
   unfold loadCells at hk
   obtain ⟨hble,hk⟩:=bif_inv hk
   have hle:fi.size≤(cs.drop fd.offset).length:=Zy hble
   split at hk
   ·rename_i hagg
    refine ⟨_,_,hk,Good.same h (v' := .agg (arr.extract fd.offset (fd.offset+info'.size))) ?_ ?_⟩
    ·simp [Instr.field,run_underlying hu,hq',asAgg,part,run_isAgg b8,hagg,run_sizeOf b1]
    ·refine .inr (.inl (.inr ⟨_,_,rfl,rfl,?_⟩))
     have:=(hc.drop fd.offset).take fi.size
     rw [← b2] at this ⊢
     have e:(arr.extract fd.offset (fd.offset+info'.size)).toList=(arr.toList.drop fd.offset).take info'.size:=by
      simp [Array.toList_extract,List.extract_eq_take_drop]
     rw [e]
     exact this
   ·rename_i hagg
    split at hk
    ·rename_i c tl hcs
     obtain ⟨v,hv,hr⟩:=(hc.drop fd.offset).get (i:=0) (c:=c) (by rw [hcs];rfl)
     refine ⟨_,_,hk,Good.same h (v':=v) ?_ (RepC.v hr)⟩
     have hv':arr[fd.offset]? = some v:=by simpa using hv
     simp [Instr.field,run_underlying hu,hq',asAgg,part,run_isAgg b8,hagg,hv']
    ·cases hk
 ·cases hf
theorem cells_of_bs {x:Value} {l:List UInt8} (h:RepI w p x (.bs l)):∃ a len cap,x = .slice a len cap∧l.length=len∧len≤cap∧(len=0∨∃ β off,a=some ⟨β,off,none⟩∧∀ i b,l[i]? = some b→off+i<p β∧w.cell? ⟨β,off+i,none⟩=some (u8v b)):=by
 cases h with
 | bs β off hl hc ha h =>
  refine ⟨_,_,_,rfl,hl,hc,?_⟩
  rcases ha with ha | ha
  ·exact .inl ha
  ·exact .inr ⟨β,off,ha,h⟩
theorem sim_indexAddr {α:Type} {E:Env} (hty:∀ t i,E.ty t=some i→mkTI P t=some i) {fr:Fr} {t:Nat} {i:TI} (hi:mkTI P t=some i) (h:SInv B M w0 p0 w p g fr.st) {x y:Value} {v n:AV} (hx:RepV w p g (used fr.st) x v) (hy:RepV w p g (used fr.st) y n) {k:Ret α} {r:α}
  (hk:doIndexAddr E fr i v n k=some r):∃ v' fp,k v' fr.st fp=some r∧Good B M w0 p0 w p g fr.st v' fr.st ((Instr.indexAt t x y).run P w):=by
 obtain ⟨info,z,a1,a2,a3,a4,a5,a6,a7,a8,a9,_⟩:=mkTI_info hi
 unfold doIndexAddr at hk
 split at hk
 ·-- bytes
  rename_i e v' n' m hkd hm
  rw [hkd] at a8
  obtain ⟨hu,hb⟩:=kind_slice a8
  obtain ⟨hue,ei,he1,he2,he3,he4⟩:=isU8_iff hb.symm
  obtain ⟨kd,rfl⟩:=idx_inv hy hm
  split at hk
  ·rename_i l
   obtain ⟨hc,hk⟩:=chk_inv hk
   simp at hc
   obtain ⟨a,len,cap,rfl,hl,hcap,hbs⟩:=cells_of_bs hx.bs
   have hlt:m.toNat<l.length:=by omega
   rcases hbs with h0 | ⟨β,off,rfl,hcell⟩
   ·omega
   ·refine ⟨_,_,hk,Good.same h (v' := .pointer (some ⟨β,off+m.toNat,none⟩)) ?_ (RepI.v (.rptr (fun _=>u8v (l.getD m.toNat 0)) (fun j c hj=> ?_) (fun j c hj=> ?_)))⟩
    ·have hin:0≤m∧m<(len:Int):=⟨hc.1,by rw [← hl];exact hc.2⟩
     simp [Instr.indexAt,asIntOf,run_underlying hu,hin,run_sizeOf he1,he2,addr_add]
    ·have:j=0:=by have:=(List.getElem?_eq_some_iff.1 hj).1;simp at this;exact this
     subst this
     have:=hcell m.toNat (l.getD m.toNat 0) (by simp [hlt])
     exact this
    ·have:j=0:=by have:=(List.getElem?_eq_some_iff.1 hj).1;simp at this;exact this
     subst this
     simp at hj
     subst hj
     simpa using RepI.u8
  ·rename_i rr
   obtain ⟨hur,rfl,a,l0,c0,hgs⟩:=hx.row
   have hb:=h.blk rr
   split at hk
   ·rename_i e' l pub hst
    rw [hst] at hb
    obtain ⟨hc,hk⟩:=chk_inv hk
    simp at hc
    obtain ⟨⟨hlen,⟨hn,a',hv⟩ | ⟨β',cap,cur,hv,h0,hB,hh,hnc,hcm,hcs,htake⟩⟩,hp⟩:=hb
    ·omega
    ·have hvb:vblk (g rr)=some β':=by rw [hv];simp [vblk];omega
     have hep:=RepC.eptr (w:=w) (p:=p) (g:=g) (u:=used fr.st) (i:=m.toNat) (sz:=1) (off:=0) (β:=β') hur hvb
     refine ⟨_,_,hk,Good.same h (v' := .pointer (some ⟨β',m.toNat,none⟩)) ?_ (RepC.v (by simpa using hep))⟩
     have hin:0≤m∧m<(l.length:Int):=hc
     rw [hv]
     simp [Instr.indexAt,asIntOf,run_underlying hu,hin,run_sizeOf he1,he2,addr_add]
   ·cases hk
  ·cases hk
 ·-- other elements
  rename_i e v' n' m hkd hm
  rw [hkd] at a8
  obtain ⟨hu,hb⟩:=kind_slice a8
  obtain ⟨kd,rfl⟩:=idx_inv hy hm
  split at hk
  ·rename_i ei hei
   obtain ⟨info',z',b1,b2,b3,b4,b5,b6,b7,b8,b9,_⟩:=mkTI_info (hty _ _ hei)
   split at hk
   ·rename_i z l
    obtain ⟨hc,hk2⟩:=chk_inv hk
    have hk3:=norm_inv hk2
    simp only [Zx,decide_eq_true_eq] at hc
    have hz:=Zz hc.2
    subst hz
    have hlt:m.toNat<l.length:=by omega
    have hrep:=hx.sl
    cases hrep with
    | sl β off vs hl hcap hsz ha hcell hr =>
     rename_i a len cap
     rcases ha with ha | rfl
     ·omega
     ·have hel:l[m.toNat]? = some (l.getD m.toNat .undef):=by simp [hlt]
      refine ⟨_,_,hk3,Good.same h (v' := .pointer (some ⟨β,off+m.toNat*ei.size,none⟩)) ?_ (RepI.v (.rptr (fun j=>vs (m.toNat*ei.size+j)) (fun j c hj=> ?_) (fun j c hj=> ?_)))⟩
      ·have hin:0≤m∧m<(len:Int):=⟨hc.1.1,by rw [← hl];exact hc.1.2⟩
       simp [Instr.indexAt,asIntOf,run_underlying hu,hin,run_sizeOf b1,b2,addr_add]
      ·have:=hcell _ _ (flat_get hsz hel hj)
       rw [Nat.add_assoc]
       exact this
      ·exact hr _ _ (flat_get hsz hel hj)
   ·rename_i b offs
    obtain ⟨hc,hk2⟩:=chk_inv hk
    simp only [Zx,decide_eq_true_eq] at hc
    have hz:=Zz hc.2
    obtain ⟨o,ho,hk3⟩:=pickP_inv hk2
    obtain ⟨hub,β,b',cap,hg,rfl,hcell⟩:=hx.psl
    obtain ⟨hp,hcl⟩:=hcell _ _ ho
    refine ⟨_,_,hk3,Good.same h (v' := .pointer (some ⟨β,m.toNat,none⟩)) ?_ (RepC.v (.pptr hub hg hp hcl))⟩
    have hin:0≤m∧m<(offs.length:Int):=hc.1
    simp [Instr.indexAt,asIntOf,run_underlying hu,hin,run_sizeOf b1,b2,addr_add,hz]
   ·rename_i rr
    obtain ⟨hur,rfl,a,l0,c0,hgs⟩:=hx.row
    have hb:=h.blk rr
    split at hk
    ·rename_i e' z l pub hst
     rw [hst] at hb
     obtain ⟨hc,hk2⟩:=chk_inv hk
     simp only [Zx,decide_eq_true_eq] at hc
     have hz:=Zz hc.2
     subst hz
     obtain ⟨hz0,hsz,vs,⟨hlen,⟨hn,a',hv⟩ | ⟨β',cap,cur,hv,h0,hB,hh,hnc,hcm,hcs,htake⟩⟩,hcells,hp⟩:=hb
     ·omega
     ·have hvb:vblk (g rr)=some β':=by rw [hv];simp [vblk];omega
      have hep:=RepC.eptr (w:=w) (p:=p) (g:=g) (u:=used fr.st) (i:=m.toNat) (sz:=ei.size) (off:=0) (β:=β') hur hvb
      refine ⟨_,_,hk2,Good.same h (v' := .pointer (some ⟨β',m.toNat*ei.size,none⟩)) ?_ (RepC.v hep)⟩
      have hin:0≤m∧m<(l.length:Int):=hc.1
      rw [hv]
      simp [Instr.indexAt,asIntOf,run_underlying hu,hin,run_sizeOf b1,b2,addr_add]
    ·cases hk
   ·cases hk
  ·cases hk
 ·-- an array of bytes
  rename_i len e b m hkd hm
  rw [hkd] at a8
  obtain ⟨hu,hb8⟩:=kind_arr a8
  obtain ⟨hue,ei,he1,he2,he3,he4⟩:=isU8_iff hb8.symm
  obtain ⟨kd,rfl⟩:=idx_inv hy hm
  obtain ⟨hub,β,hg,rfl⟩:=hx.ptr
  have hb:=h.blk b
  split at hk
  ·rename_i l pub hst
   rw [hst] at hb
   obtain ⟨hc,hk2⟩:=chk_inv hk
   simp only [Zx,decide_eq_true_eq] at hc
   obtain ⟨⟨⟨hc1,hc2⟩,hc3⟩,hc4⟩:=hc
   have hlen:=Zz hc3
   have h1:1<len:=Zy hc4
   refine ⟨_,_,hk2,Good.same h (v' := .pointer (some ⟨β,m.toNat,none⟩)) ?_ ?_⟩
   ·have hin:0≤m∧m<(len:Int):=⟨hc1,by rw [← hlen];exact hc2⟩
    simp [Instr.indexAt,asIntOf,run_underlying hu,hin,run_sizeOf he1,he2,addr_add,Instr.sureAddr]
   ·have:=RepC.eptr (w:=w) (p:=p) (g:=g) (u:=used fr.st) (i:=m.toNat) (sz:=1) (off:=0) (β:=β) hub (by rw [hg];rfl)
    exact RepC.v (by simpa using this)
  ·cases hk
 ·-- another array
  rename_i len e b off m hkd hm
  rw [hkd] at a8
  obtain ⟨hu,hb8⟩:=kind_arr a8
  obtain ⟨kd,rfl⟩:=idx_inv hy hm
  obtain ⟨hub,β,hg,rfl⟩:=hx.ptr
  split at hk
  ·rename_i ei hei
   obtain ⟨info',z',b1,b2,b3,b4,b5,b6,b7,b8,b9,_⟩:=mkTI_info (hty _ _ hei)
   obtain ⟨hc,hk2⟩:=chk_inv hk
   simp only [Zx,decide_eq_true_eq] at hc
   obtain ⟨⟨hc1,hc2⟩,hc4⟩:=hc
   refine ⟨_,_,hk2,Good.same h (v' := .pointer (some ⟨β,off+m.toNat*ei.size,none⟩)) ?_ (RepC.v (.ptr hub hg))⟩
   have hin:0≤m∧m<(len:Int):=⟨hc1,hc2⟩
   simp [Instr.indexAt,asIntOf,run_underlying hu,hin,run_sizeOf b1,b2,addr_add,Instr.sureAddr]
  ·cases hk
 ·-- an array that is only read
  rename_i len e cs m hkd hm
  rw [hkd] at a8
  obtain ⟨hu,hb8⟩:=kind_arr a8
  obtain ⟨kd,rfl⟩:=idx_inv hy hm
  have hrp:=hx.rptr
  split at hk
  ·rename_i ei hei
   obtain ⟨info',z',b1,b2,b3,b4,b5,b6,b7,b8,b9,_⟩:=mkTI_info (hty _ _ hei)
   obtain ⟨hc,hk1⟩:=chk_inv hk
   have hk2:=norm_inv hk1
   simp only [Zx,decide_eq_true_eq] at hc
   obtain ⟨⟨⟨⟨hc1,hc2⟩,hc3⟩,hc4⟩,hc5⟩:=hc
   have hz:=Zz hc4
   have hlen:len≤cs.length:=Zy hc5
   have hlt:m.toNat<cs.length:=by omega
   have hel:cs[m.toNat]? = some (cs.getD m.toNat .undef):=by simp [hlt]
   cases hrp with
   | rptr vs hcell hr =>
    rename_i β off
    refine ⟨_,_,hk2,Good.same h (v' := .pointer (some ⟨β,off+m.toNat,none⟩)) ?_ (RepI.v (.rptr (fun j=>vs (m.toNat+j)) (fun j c hj=> ?_) (fun j c hj=> ?_)))⟩
    ·have hin:0≤m∧m<(len:Int):=⟨hc1,hc2⟩
     simp [Instr.indexAt,asIntOf,run_underlying hu,hin,run_sizeOf b1,b2,addr_add,Instr.sureAddr,hz]
    ·have:j=0:=by have:=(List.getElem?_eq_some_iff.1 hj).1;simp at this;exact this
     subst this
     exact hcell _ _ hel
    ·have:j=0:=by have:=(List.getElem?_eq_some_iff.1 hj).1;simp at this;exact this
     subst this
     simp at hj
     subst hj
     exact hr _ _ hel
  ·cases hk
 ·cases hk
theorem sim_index {α:Type} {fr:Fr} {t:Nat} {i:TI} (hi:mkTI P t=some i) (h:SInv B M w0 p0 w p g fr.st) {x y:Value} {v n:AV} (hx:RepV w p g (used fr.st) x v) (hy:RepV w p g (used fr.st) y n) {k:Ret α} {r:α}
  (hk:doIndex fr i v n k=some r):∃ v' fp,k v' fr.st fp=some r∧Good B M w0 p0 w p g fr.st v' fr.st ((Instr.index t x y).run P w):=by
 obtain ⟨info,z,a1,a2,a3,a4,a5,a6,a7,a8,a9,_⟩:=mkTI_info hi
 unfold doIndex at hk
 split at hk
 ·rename_i l m hkd hm
  rw [hkd] at a8
  have hu:=kind_str a8
  obtain ⟨kd,rfl⟩:=idx_inv hy hm
  obtain ⟨s,rfl,rfl⟩:=hx.str
  obtain ⟨hc,hk2⟩:=chk_inv hk
  simp only [Zx,decide_eq_true_eq] at hc
  have hlt:m.toNat<s.data.toList.length:=by omega
  have hlt':m.toNat<s.size:=by simpa using hlt
  refine ⟨_,_,hk2,Good.same h (v':=u8v (s.data.toList.getD m.toNat 0)) ?_ (RepI.v .u8)⟩
  have hs:s[m.toNat]? = some (s.data.toList.getD m.toNat 0):=by
   rw [getElem?_pos s m.toNat hlt']
   congr 1
   simp only [List.getD_eq_getElem?_getD,List.getElem?_eq_getElem hlt,Option.getD_some]
   rfl
  simp [Instr.index,asIntOf,run_underlying hu,hc.1,hs,u8v]
 ·cases hk
theorem sim_len {α:Type} {fr:Fr} {t ty:Nat} {i:TI} (hi:mkTI P t=some i) (h:SInv B M w0 p0 w p g fr.st) {x:Value} {v:AV} (hx:RepV w p g (used fr.st) x v) {k:Ret α} {r:α}
  (hk:doLen fr i v k=some r):∃ v' fp,k v' fr.st fp=some r∧Good B M w0 p0 w p g fr.st v' fr.st ((Builtin.len_ #[t] ty #[x]).run P w):=by
 obtain ⟨info,z,a1,a2,a3,a4,a5,a6,a7,a8,a9,_⟩:=mkTI_info hi
 unfold doLen at hk
 split at hk
 ·rename_i hkd
  rw [hkd] at a8
  have hu:=kind_str a8
  obtain ⟨l,rfl,hk2⟩:=onStr_inv hk
  obtain ⟨s,rfl,rfl⟩:=hx.str
  refine ⟨_,_,hk2,Good.same h (v' := .int .i64 s.data.toList.length) ?_ (RepI.v (.int (by simp)))⟩
  simp [Builtin.len_,run_underlying hu,goInt]
 ·rename_i e bb hkd
  rw [hkd] at a8
  obtain ⟨hu,_⟩:=kind_slice a8
  have key:∀ (a:Option Addr) (n c:Nat) (fp:FP),x = .slice a n c→k (.int .i64 n) fr.st fp=some r→∃ v' fp,k v' fr.st fp=some r∧Good B M w0 p0 w p g fr.st v' fr.st ((Builtin.len_ #[t] ty #[x]).run P w):=by
   rintro a n c fp rfl hk2
   exact ⟨_,_,hk2,Good.same h (v' := .int .i64 n) (by simp [Builtin.len_,run_underlying hu,goInt]) (RepI.v (.int (by simp)))⟩
  unfold lenOf at hk
  split at hk
  ·obtain ⟨a,len,cap,rfl,hl,_⟩:=cells_of_bs hx.bs
   rw [hl] at hk
   exact key a len cap _ rfl hk
  ·have hr:=hx.sl
   cases hr with
   | sl β off vs hl hcap hsz ha hcell hr =>
    rw [hl] at hk
    exact key _ _ _ _ rfl hk
  ·obtain ⟨a,rfl⟩:=hx.nils
   exact key a 0 0 _ rfl hk
  ·obtain ⟨_,β,b',cap,_,rfl,_⟩:=hx.psl
   exact key _ _ cap _ rfl hk
  ·rename_i rr
   obtain ⟨hur,rfl,a,l0,c0,hgs⟩:=hx.row
   have hb:=h.blk rr
   split at hk
   ·rename_i e' l pub hst
    rw [hst] at hb
    obtain ⟨⟨hlen,⟨hn,a',hv⟩ | ⟨β',cap,cur,hv,_⟩⟩,hp⟩:=hb
    ·rw [hn] at hk;exact key _ _ _ _ hv hk
    ·exact key _ _ _ _ hv hk
   ·rename_i e' z l pub hst
    rw [hst] at hb
    obtain ⟨hz0,hsz,vs,⟨hlen,⟨hn,a',hv⟩ | ⟨β',cap,cur,hv,_⟩⟩,hcells,hp⟩:=hb
    ·rw [hn] at hk;exact key _ _ _ _ hv hk
    ·exact key _ _ _ _ hv hk
   ·cases hk
  ·cases hk
 ·cases hk
theorem SInv.grow {st:Nat→Blk} (h:SInv B M w0 p0 w p g st) {w':World} {p':Prot} (hos:w'.os=w.os) (htape:w'.tape=w.tape) (hout:w'.output=w.output) (hsz:w.heap.size≤w'.heap.size)
  (hheap:∀ β,β<w.heap.size→w'.heap[β]? = w.heap[β]? ∧ p' β=p β) (hnewp:∀ β,w'.heap.size≤β→p' β=0) :
  SInv B M w0 p0 w' p' g st∧Mono w p g (used st) w' p' g (used st):=by
 have hprot:∀ β,p β≤p' β:=fun β=>by
  rcases Nat.lt_or_ge β w.heap.size with hlt | hge
  ·rw [(hheap β hlt).2];exact Zw _
  ·rw [h.newp β hge];exact Nat.zero_le _
 have hcell:∀ β i,i<p β→w'.cell? ⟨β,i,none⟩=w.cell? ⟨β,i,none⟩:=fun β i hi=>by
  rcases Nat.lt_or_ge β w.heap.size with hlt | hge
  ·exact cell_same (hheap β hlt).1 i
  ·rw [h.newp β hge] at hi;omega
 exact h.change hos htape hout hsz (fun _=>False) (fun _=>False) (fun _ _=>rfl) (fun _ hu=>hu) (fun _ _=>rfl) (fun β hβ _=>hheap β hβ) (fun _ hd=>hd.elim) hprot hcell hnewp (fun _ _ _ _ _ hd=>hd.elim) (fun _ hd=>hd.elim) (fun _ _ _ hd=>hd.elim)
theorem bytesOf_inv {α:Type} {st:Nat→Blk} (h:SInv B M w0 p0 w p g st) {x:Value} {v:AV} (hx:RepV w p g (used st) x v) {k:List UInt8→FP→Option α} {r:α} (hk:bytesOf st v k=some r) :
  ∃ l fp a len cap,k l fp=some r∧x = .slice a len cap∧l.length=len∧len≤cap∧(len=0∨∃ β off,a=some ⟨β,off,none⟩∧∀ i b,l[i]? = some b→w.cell? ⟨β,off+i,none⟩=some (u8v b)):=by
 unfold bytesOf at hk
 split at hk
 ·obtain ⟨a,len,cap,rfl,hl,hc,hb⟩:=cells_of_bs hx.bs
  refine ⟨_,_,a,len,cap,hk,rfl,hl,hc,?_⟩
  rcases hb with hb | ⟨β,off,ha,hb⟩
  ·exact .inl hb
  ·exact .inr ⟨β,off,ha,fun i b hi=>(hb i b hi).2⟩
 ·obtain ⟨a,rfl⟩:=hx.nils
  exact ⟨_,_,a,0,0,hk,rfl,rfl,Zw _,.inl rfl⟩
 ·rename_i rr
  obtain ⟨hur,rfl,a,l0,c0,hgs⟩:=hx.row
  have hb:=h.blk rr
  split at hk
  ·rename_i e' l pub hst
   rw [hst] at hb
   obtain ⟨⟨hlen,⟨hn,a',hv⟩ | ⟨β',cap,cur,hv,h0,hB,hh,hnc,hcm,hcs,htake⟩⟩,hp⟩:=hb
   ·exact ⟨l,_,a',0,0,hk,hv,hn,Zw _,.inl rfl⟩
   ·refine ⟨l,_,_,_,_,hk,hv,rfl,hnc,.inr ⟨β',0,rfl,fun i b hi=> ?_⟩⟩
    rw [cell_heap hh]
    have h1:(l.map u8v)[i]? = some (u8v b):=by simp [hi]
    rw [← htake,List.getElem?_take] at h1
    split at h1
    ·simpa using h1
    ·cases h1
  ·cases hk
 ·cases hk
theorem raise_newp {n β:Nat} (h:∀ β,w.heap.size≤β→p β=0) {w':World} (hs:w.heap.size<w'.heap.size):∀ β,w'.heap.size≤β→raise p (some w.heap.size) n β=0:=fun β hβ=>by
 rw [raise_ne (by simp;omega)];exact h β (by omega)
theorem sim_convert {α:Type} {fr:Fr} {s d:Nat} {si di:TI} (hsi:mkTI P s=some si) (hdi:mkTI P d=some di) (h:SInv B M w0 p0 w p g fr.st) {x:Value} {v:AV} (hx:RepV w p g (used fr.st) x v) {k:Ret α} {r:α}
  (hk:doConvert fr si di v k=some r):∃ v' fp,k v' fr.st fp=some r∧Good B M w0 p0 w p g fr.st v' fr.st ((convert s d x).run P w):=by
 obtain ⟨info,z,a1,a2,a3,a4,a5,a6,a7,a8,a9,_⟩:=mkTI_info hsi
 obtain ⟨info',z',b1,b2,b3,b4,b5,b6,b7,b8,b9,_⟩:=mkTI_info hdi
 have hsu:∃ du,P.underlying s=some du:=by
  cases hu:P.underlying s with
  | some du=>exact ⟨du,rfl⟩
  | none=>simp [kindOf,hu] at a8
 obtain ⟨du,hsu⟩:=hsu
 unfold doConvert at hk
 split at hk
 ·rename_i kd hkd
  rw [hkd] at b8
  obtain ⟨hd,hne⟩:=kind_int b8
  split at hk
  ·rename_i n hn
   obtain ⟨k',rfl⟩:=idx_inv hx hn
   refine ⟨_,_,hk,Good.same h (v' := .int kd (kd.wrap n)) ?_ (RepI.v (.int hne))⟩
   simp [convert,run_underlying hsu,run_underlying hd,Conv.intToInt]
  ·cases hk
 ·rename_i hkd
  rw [hkd] at b8
  have hd:=kind_u8 b8
  split at hk
  ·rename_i n hn
   obtain ⟨k',rfl⟩:=idx_inv hx hn
   refine ⟨_,_,hk,Good.same h (v' := .int .u8 (IntKind.u8.wrap n)) ?_ (RepI.v (repI_mkInt fun _=>wrap_u8 n))⟩
   simp [convert,run_underlying hsu,run_underlying hd,Conv.intToInt]
  ·cases hk
 ·rename_i hkd
  rw [hkd] at b8
  have hd:=kind_str b8
  split at hk
  ·rename_i hks
   rw [hks] at a8
   obtain ⟨l,rfl,hk2⟩:=onStr_inv hk
   obtain ⟨str,rfl,hl⟩:=hx.str
   refine ⟨_,_,hk2,Good.same h (v' := .string str) ?_ (RepI.v (.str hl))⟩
   simp [convert,run_underlying (kind_str a8),run_underlying hd]
  ·rename_i e hks
   rw [hks] at a8
   obtain ⟨hs,hb⟩:=kind_slice a8
   obtain ⟨he,_⟩:=isU8_iff hb.symm
   obtain ⟨l,fp,a,len,cap,hk2,rfl,hl,hcap,hc⟩:=bytesOf_inv h hx hk
   subst hl
   refine ⟨_,_,hk2,Good.same h (v' := .string ⟨l.toArray⟩) ?_ (RepI.v (.str (by simp)))⟩
   cases a with
   | none =>
    have hnil:l=[]:=by
     rcases hc with hc | ⟨β,off,ha,_⟩
     ·exact Zv hc
     ·cases ha
    subst hnil
    rw [run_convert_bytes_string w s d e none _ cap hs he hd]
    rfl
   | some a =>
    refine run_convert_bytes_back w s d e a cap l hs he hd fun j hj=> ?_
    rcases hc with hc | ⟨β,off,ha,hcell⟩
    ·omega
    ·cases ha
     rw [addr_add]
     exact hcell j _ (List.getElem?_eq_getElem hj)
  ·cases hk
 ·rename_i e hkd
  rw [hkd] at b8
  obtain ⟨hd,hb⟩:=kind_slice b8
  obtain ⟨he,_⟩:=isU8_iff hb.symm
  split at hk
  ·rename_i hks
   rw [hks] at a8
   obtain ⟨l,rfl,hk2⟩:=onStr_inv hk
   obtain ⟨str,rfl,rfl⟩:=hx.str
   have hrun:=run_bytes_of_string (P:=P) w s d e str (kind_str a8) hd he
   refine ⟨_,_,hk2,?_⟩
   have hle:str.size≤grownCap w str.size 0 e:=grownCap_ge w _ _ _
   obtain ⟨hs,hm⟩:=h.grow (w':=w.drew.alloc (.cells (bytesRow str (grownCap w str.size 0 e)) e ((bytesRow str (grownCap w str.size 0 e)).size,(bytesRow str (grownCap w str.size 0 e)).size+1))) (p':=raise p (some w.heap.size) str.size) rfl rfl rfl (by simp)
    (fun β hβ=>⟨heap_push_old w.drew _ hβ,raise_ne (by simp;omega)⟩) (raise_newp (β:=0) h.newp (by simp))
   refine ⟨_,_,_,g,hrun,hs,hm,RepI.v (.bs w.heap.size 0 (by simp) hle (.inr rfl) fun i b hi=>⟨?_,?_⟩)⟩
   ·rw [raise_same rfl]
    have:=(List.getElem?_eq_some_iff.1 hi).1
    simpa using this
   ·rw [cell_heap (w:=w.drew.alloc _) (β:=w.heap.size) (heap_push_new w.drew _)]
    have hi':i<str.size:=by have:=(List.getElem?_eq_some_iff.1 hi).1;simpa using this
    have hb:str.data[i]? = some b:=by simpa using hi
    have hi2:i<str.data.size:=hi'
    simp [bytesRow,Array.getElem?_append,u8v]
    rw [if_pos hi',hb]
    rfl
  ·cases hk
 ·cases hk
end
end Go.Abs
