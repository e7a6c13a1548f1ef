/- Calls. -/
import Derived.Test.YtaikjfcgemjghaaGreatAbsEq
namespace Go.Abs
set_option linter.unusedVariables false
def CallsX (P:Program) (f:FuncId) (vals:Array Value) (w:World) (R:Value→World→Prop):Prop :=
 ((callFunc f vals).run P w = .ok (.enter f vals) w∧Calls P f vals w fun e w'=>∃ v,e = .returned v∧R v w') ∨
 ∃ v w',(callFunc f vals).run P w = .ok (.value v) w'∧R v w'
structure Kept (M:Nat→Prop) (w:World) (p:Prot) (w':World) (p':Prot):Prop where
 os:w'.os=w.os
 tape:w'.tape=w.tape
 output:w'.output=w.output
 size:w.heap.size≤w'.heap.size
 block:∀ β,β<w.heap.size→¬ M β→w'.heap[β]? = w.heap[β]?
 prot:∀ β,β<w.heap.size→p' β=p β
 newp:∀ β,w'.heap.size≤β→p' β=0
def NewP (w:World) (p:Prot):Prop:=∀ β,w.heap.size≤β→p β=0
def ArgRep (w:World) (p:Prot) (bk:Nat→Nat) (blks:List (Nat×List AV)) (v:Value) (a:AV):Prop:=RepO w p v a∨∃ j cs,(j,cs)∈blks∧a = .ptr j 0∧v = .pointer (some ⟨bk j,0,none⟩)
structure BlksIn (w:World) (p:Prot) (bk:Nat→Nat) (blks:List (Nat×List AV)):Prop where
 each:∀ j cs,(j,cs)∈blks→∃ c e,w.heap[bk j]? = some (.cells c e (0,0))∧Cells (RepI w p) c.toList cs∧p (bk j)=0
 keys:(blks.map (·.1)).Nodup
 inj:∀ j j' cs cs',(j,cs)∈blks→(j',cs')∈blks→bk j=bk j'→j=j'
def Res1 (E:Env) (B:Nat) (w:World) (p:Prot) (ty:Nat) (v:Value) (a:AV):Prop :=
 RepO w p v a ∨
 (∃ i e l,E.ty ty=some i∧i.kind = .slice e true∧a = .ownB l∧RowOK w B e 1 v l.length (l.map u8v)∧∀ β,vblk v=some β→p β=0) ∨
 (∃ i e ei l vs,E.ty ty=some i∧i.kind = .slice e false∧E.ty e=some ei∧a = .ownL l∧0<ei.size∧(∀ x∈l,x.cells.length=ei.size)∧RowOK w B e ei.size v l.length vs∧Cells (RepI w p) vs (l.flatMap AV.cells)∧∀ β,vblk v=some β→p β=0)
def ResRep (E:Env) (B:Nat) (w:World) (p:Prot) (rt:List Nat) (v:Value) (r:AV):Prop :=
 match rt with
 | [ty]=>Res1 E B w p ty v r
 | rt=>∃ arr as,v = .tuple arr∧r = .tup as∧arr.size=rt.length∧as.length=rt.length∧(∀ x a ty,arr[0]? = some x→as[0]? = some a→rt[0]? = some ty→Res1 E B w p ty x a)∧∀ j x a,0<j→arr[j]? = some x→as[j]? = some a→RepO w p x a
structure BlksOut (w:World) (p:Prot) (bk:Nat→Nat) (blks:List (Nat×List AV)) (bs:Blocks):Prop where
 len:blks.length=bs.length
 each:∀ (i j:Nat) (cs cs':List AV),blks[i]? = some (j,cs)→bs[i]? = some cs'→∃ c e,w.heap[bk j]? = some (.cells c e (0,0))∧Cells (RepI w p) c.toList cs'
def GlobOK (E:Env) (w:World) (p:Prot):Prop:=∀ q cs,E.glob q=some cs→RepI w p (.pointer (some ⟨q,0,none⟩)) (.rptr cs)
abbrev Trip (β:Type):=β×(Nat→Blk)×FP
def trip {β:Type}:β→(Nat→Blk)→FP→Option (Trip β):=fun a s f=>some (a,s,f)
structure CallOK (P:Program) (E:Env) (rts:Nat→Option (List Nat)):Prop where
 call:∀ f as blks r bs rt,E.call f as blks=some (r,bs)→rts f=some rt→∀ (w:World) (p:Prot) (vals:Array Value) (bk:Nat→Nat),NewP w p→GlobOK E w p→vals.size=as.length →
  (∀ (i:Nat) (v:Value) (a:AV),vals[i]? = some v→as[i]? = some a→ArgRep w p bk blks v a)→BlksIn w p bk blks →
  CallsX P f vals w fun v w'=>∃ p',Kept (fun β=>∃ j cs,(j,cs)∈blks∧bk j=β) w p w' p'∧ResRep E w.heap.size w' p' rt v r∧BlksOut w' p' bk blks bs
 inl:∀ f run,E.inl f=some run→∀ {B:Nat} {M:Nat→Prop} {w0:World} {p0:Prot} {w:World} {p:Prot} {g:Nat→Value} {st:Nat→Blk},SInv B M w0 p0 w p g st→GlobOK E w p→∀ {kb:Nat} {args:List AV} {xs:List Value},Cells (RepV w p g (used st)) xs args →
  ∀ {v:AV} {st':Nat→Blk} {fp:FP},run.run _ kb args st trip=some (v,st',fp)→CallsX P f xs.toArray w fun x w'=>∃ p' g',SInv B M w0 p0 w' p' g' st'∧Mono w p g (used st) w' p' g' (used st')∧RepV w' p' g' (used st') x v
section
variable {P:Program} {B:Nat} {M:Nat→Prop} {w0:World} {p0:Prot} {w:World} {p:Prot} {g:Nat→Value}
structure ArgsOut (w:World) (p:Prot) (g:Nat→Value) (st:Nat→Blk) (j:Nat) (xs:List Value) (as:List AV) (bl:List (Nat×Nat×List AV)):Prop where
 len:xs.length=as.length
 each:∀ i x a,xs[i]? = some x→as[i]? = some a→RepO w p x a∨∃ b cs β,(j+i,b,cs)∈bl∧a = .ptr (j+i) 0∧g b = .pointer (some ⟨β,0,none⟩)∧x = .pointer (some ⟨β,0,none⟩)
 blk:∀ i b cs,(i,b,cs)∈bl→j≤i∧∃ β c e old,g b = .pointer (some ⟨β,0,none⟩)∧st b = .cells old∧w.heap[β]? = some (.cells c e (0,0))∧Cells (RepI w p) c.toList cs
 keys:(bl.map (·.1)).Nodup
 dist:(bl.map (·.2.1)).Nodup
theorem sim_outA {α:Type} {st:Nat→Blk} {p:Prot} (h:SInv B M w0 p0 w p g st) {i:TI} {x:Value} {v:AV} (hx:RepV w p g (used st) x v) {k:AV→(Nat→Blk)→FP→Option α} {r:α} (hk:outA i v st k=some r) :
  ∃ a st' fp p',k a st' fp=some r∧SInv B M w0 p0 w p' g st'∧Mono w p g (used st) w p' g (used st')∧RepO w p' x a∧Pres st st':=by
 unfold outA at hk
 split at hk
 ·obtain ⟨a,rfl⟩:=hx.nils
  exact ⟨_,_,_,p,hk,h,Mono.refl,.inl .nils,Pres.refl⟩
 ·exact sim_out' h hx hk
theorem sim_outArgs {α:Type} {E:Env}:∀ {j:Nat} {tys:List Nat} {vs:List AV} {xs:List Value} {st:Nat→Blk} {p:Prot},SInv B M w0 p0 w p g st→Cells (RepV w p g (used st)) xs vs→∀ {k:List AV→List (Nat×Nat×List AV)→(Nat→Blk)→FP→Option α} {r:α},
  outArgs E j tys vs st k=some r→∃ as bl st' fp p',k as bl st' fp=some r∧SInv B M w0 p0 w p' g st'∧Mono w p g (used st) w p' g (used st')∧ArgsOut w p' g st' j xs as bl∧Pres st st'
 | j,[],[],xs,st,p,h,hx,k,r,hk=>by
  simp only [outArgs] at hk
  have:=hx.nil_iff
  subst this
  exact ⟨_,_,_,_,p,hk,h,Mono.refl,⟨rfl,fun i x a hx=>by simp at hx,fun i b cs hb=>by simp at hb,by simp,by simp⟩,Pres.refl⟩
 | j,ty::tys,v::vs,xs,st,p,h,hx,k,r,hk=>by
  obtain ⟨x,xs',rfl,hv,hrest⟩:=hx.uncons
  simp only [outArgs] at hk
  split at hk
  ·-- a pointer to a block
   rename_i b off
   obtain ⟨hub,β,hg,rfl⟩:=hv.ptr
   split at hk
   ·rename_i cs hst
    split at hk
    ·rename_i ei hei
     obtain ⟨hcond,hk1⟩:=bif_inv hk
     simp only [Bool.and_eq_true,beq_iff_eq] at hcond
     obtain ⟨ho,hsz⟩:=hcond
     subst ho
     have hb:=h.blk b
     rw [hst] at hb
     obtain ⟨β',c,e,h1,h2,h3,h4,h5⟩:=hb
     have hbe:β'=β:=by rw [h1] at hg;cases hg;rfl
     subst hbe
     obtain ⟨cs',st1,f1,p1,hk2,hs1,hm1,hr1,hp1⟩:=sim_outCs' h h4 hk1
     obtain ⟨as,bl,st2,f2,p2,hk3,hs2,hm2,ha,hp2⟩:=sim_outArgs hs1 (hrest.imp fun _ _=>hm1.repV) hk2
     cases hany:(bl.any fun x=>x.2.1==b) with
     | true=>rw [hany] at hk3;cases hk3
     | false =>
      rw [hany] at hk3
      simp only [cond_false] at hk3
      refine ⟨_,_,_,_,p2,hk3,hs2,hm1.trans hm2,⟨by simp [ha.len],fun i x a hxi hai=> ?_,fun i b' cs'' hmem=> ?_,?_,?_⟩,hp1.trans hp2⟩
      ·cases i with
       | zero =>
        simp at hxi hai
        subst hxi;subst hai
        exact .inr ⟨b,cs',β',by simp,by simp,hg,rfl⟩
       | succ i =>
        simp at hxi hai
        rcases ha.each i x a hxi hai with hr | ⟨b',cs'',β'',hmem,e1,e2,e3⟩
        ·exact .inl hr
        ·refine .inr ⟨b',cs'',β'',?_,?_,e2,e3⟩
         ·rw [show j+(i+1)=j+1+i by omega];simp [hmem]
         ·rw [show j+(i+1)=j+1+i by omega];exact e1
      ·rcases List.mem_cons.1 hmem with hmem | hmem
       ·cases hmem
        exact ⟨Nat.le_refl _,β',c,e,cs,h1,hp2 _ _ (hp1 _ _ hst),h3,hr1.imp fun _ _=>hm2.repI⟩
       ·obtain ⟨h6,h7⟩:=ha.blk i b' cs'' hmem
        exact ⟨by omega,h7⟩
      ·simp only [List.map_cons,List.nodup_cons]
       refine ⟨fun hm=> ?_,ha.keys⟩
       obtain ⟨⟨i,b',cs''⟩,hmem,e1⟩:=List.mem_map.1 hm
       have:=(ha.blk i b' cs'' hmem).1
       simp at e1
       omega
      ·simp only [List.map_cons,List.nodup_cons]
       refine ⟨fun hm=> ?_,ha.dist⟩
       obtain ⟨⟨i,b',cs''⟩,hmem,e1⟩:=List.mem_map.1 hm
       have:=List.any_eq_false.1 hany _ hmem
       simp at this e1
       exact this e1
    ·cases hk
   ·cases hk
  ·split at hk
   ·rename_i i hi
    obtain ⟨a,st1,f1,p1,hk1,hs1,hm1,hr1,hp1⟩:=sim_outA h hv hk
    obtain ⟨as,bl,st2,f2,p2,hk2,hs2,hm2,ha,hp2⟩:=sim_outArgs hs1 (hrest.imp fun _ _=>hm1.repV) hk1
    refine ⟨_,_,_,_,p2,hk2,hs2,hm1.trans hm2,⟨by simp [ha.len],fun i x a hxi hai=> ?_,fun i b' cs'' hmem=> ?_,ha.keys,ha.dist⟩,hp1.trans hp2⟩
    ·cases i with
     | zero =>
      simp at hxi hai
      subst hxi;subst hai
      exact .inl (hr1.mono hm2.prot hm2.cell)
     | succ i =>
      simp at hxi hai
      rcases ha.each i x a hxi hai with hr | ⟨b',cs'',β'',hmem,e1,e2,e3⟩
      ·exact .inl hr
      ·refine .inr ⟨b',cs'',β'',?_,?_,e2,e3⟩
       ·rw [show j+(i+1)=j+1+i by omega];exact hmem
       ·rw [show j+(i+1)=j+1+i by omega];exact e1
    ·obtain ⟨h6,h7⟩:=ha.blk i b' cs'' hmem
     exact ⟨by omega,h7⟩
   ·cases hk
 | _,[],_::_,_,_,_,_,_,_,_,hk=>by simp [outArgs] at hk
 | _,_::_,[],_,_,_,_,_,_,_,hk=>by simp [outArgs] at hk
theorem RowOK.base {B' e size n:Nat} {v:Value} {xs:List Value} (h:RowOK w B' e size v n xs) (hB:B≤B'):RowOK w B e size v n xs:=by
 obtain ⟨hl,h | ⟨β,cap,cur,h1,h2,h3,r⟩⟩:=h
 ·exact ⟨hl,.inl h⟩
 ·exact ⟨hl,.inr ⟨β,cap,cur,h1,h2,by omega,r⟩⟩
theorem RowOK.slice {e size n:Nat} {v:Value} {xs:List Value} (h:RowOK w B e size v n xs):∃ a l c,v = .slice a l c:=by
 obtain ⟨_,⟨_,a,h⟩ | ⟨β,cap,cur,h,_⟩⟩:=h
 ·exact ⟨_,_,_,h⟩
 ·exact ⟨_,_,_,h⟩
theorem RowOK.vblk_ge {e size n:Nat} {v:Value} {xs:List Value} (h:RowOK w B e size v n xs) {β:Nat} (hv:vblk v=some β):B≤β∧β<w.heap.size:=by
 obtain ⟨_,⟨_,a,hg⟩ | ⟨β',cap,cur,hg,h0,hB,hh,_⟩⟩:=h
 ·rw [hg] at hv;cases a<;>simp [vblk] at hv
 ·rw [hg] at hv
  have:β'=β:=by simp [vblk] at hv;exact hv.2
  subst this
  exact ⟨hB,heap_lt hh⟩
theorem SInv.addRow {st:Nat→Blk} (h:SInv B M w0 p0 w p g st) {B' t:Nat} {b:Blk} {x:Value} (ht:st t = .free) (hb:b.live) (hlive:∀ k β,(st k).live→vblk (g k)=some β→β<B') (hx:∀ β,vblk x=some β→B'≤β)
  (hB:Mono w p g (used st) w p (upd g t x) (used (upd st t b))→BlkOK w p (upd g t x) (used (upd st t b)) B M t b) :
  SInv B M w0 p0 w p (upd g t x) (upd st t b)∧Mono w p g (used st) w p (upd g t x) (used (upd st t b)):=by
 have hbf:b ≠ .free:=fun e=>by rw [e] at hb;exact hb
 have hu:∀ k,used st k→used (upd st t b) k:=fun k hk=>used_upd hbf hk
 have hg:∀ k,used st k→upd g t x k=g k:=fun k hk=>upd_ne _ _ (fun e=>by subst e;exact hk ht)
 refine h.change rfl rfl rfl (Nat.le_refl _) (fun k=>k=t) (fun _=>False) (fun k hk=>upd_ne _ _ hk) hu hg (fun β hβ _=>⟨rfl,rfl⟩) (fun _ hd=>hd.elim) (fun _=>Nat.le_refl _) (fun _ _ _=>rfl) h.newp (fun _ _ _ _ _ hd=>hd.elim) ?_ ?_
 ·rintro k rfl
  rw [upd_same]
  exact hB ⟨fun _=>Nat.le_refl _,fun _ _ _=>rfl,hg,hu⟩
 ·rintro k k' β rfl hne _ hl' hva hvb
  rw [upd_same] at hva
  rw [upd_ne _ _ hne] at hl' hvb
  have h1:=hx β hva
  have h2:=hlive k' β hl' hvb
  omega
theorem RepO.repW {u:Nat→Prop} {v:Value} {a:AV} (h:RepO w p v a):RepW w p g u v a:=by
 rcases h with h | ⟨arr,cs,rfl,rfl,h⟩
 ·exact .inl (.imm h)
 ·exact .inr ⟨arr,cs,rfl,rfl,h.imp fun _ _ => .imm⟩
theorem sim_inRes {α:Type} {E:Env} {st:Nat→Blk} (h:SInv B M w0 p0 w p g st) {B' t ty:Nat} {i:TI} (hi:E.ty ty=some i) (hBB:B≤B') (hlive:∀ k β,(st k).live→vblk (g k)=some β→β<B') {own:Bool} {x:Value} {v:AV} (hr:Res1 E B' w p ty x v) {k:AV→(Nat→Blk)→FP→Option α} {r:α}
  (hk:inRes E own t i v st k=some r):∃ a st' fp g',k a st' fp=some r∧SInv B M w0 p0 w p g' st'∧Mono w p g (used st) w p g' (used st')∧RepW w p g' (used st') x a:=by
 unfold inRes at hk
 split at hk
 ·rename_i e hkd
  split at hk
  ·rename_i ht
   obtain ⟨l,rfl,hk2⟩:=onOwnB_inv hk
   rcases hr with (hr | ⟨_,_,_,hr,_⟩) | ⟨i',e',l',hi',hk',he,hrow,hp⟩ | ⟨i',e',ei,l',vs,_,_,_,he,_⟩
   ·cases hr
   ·cases hr
   ·cases he
    rw [hi] at hi';cases hi'
    rw [hkd] at hk';cases hk'
    obtain ⟨hs,hm⟩:=h.addRow (t:=t) (b := .rowB e l false) (x:=x) ht trivial hlive (fun β hv=>(hrow.vblk_ge hv).1)
     (fun hm=>⟨by rw [upd_same];exact hrow.base hBB,fun β hv=>by rw [upd_same] at hv;rw [hp β hv];exact ⟨Nat.zero_le _,fun _=>rfl⟩⟩)
    have hus:used (upd st t (.rowB e l false)) t:=by unfold used;rw [upd_same];simp
    have hgt:upd g t x t=x:=upd_same _ _ _
    have hrc:=RepC.row (w:=w) (p:=p) (g:=upd g t x) (u:=used (upd st t (.rowB e l false))) (k:=t) hus (by rw [hgt];exact hrow.slice)
    rw [hgt] at hrc
    exact ⟨_,_,_,_,hk2,hs,hm,.inl hrc⟩
   ·cases he
  ·cases hk
 ·rename_i e hkd
  split at hk
  ·rename_i ei ht hei
   obtain ⟨l,rfl,hk2⟩:=onOwnL_inv hk
   rcases hr with (hr | ⟨_,_,_,hr,_⟩) | ⟨i',e',l',hi',hk',he,hrow,hp⟩ | ⟨i',e',ei',l',vs,hi',hk',hei',he,hpos,hsz,hrow,hcells,hp⟩
   ·cases hr
   ·cases hr
   ·cases he
   ·cases he
    rw [hi] at hi';cases hi'
    rw [hkd] at hk';cases hk'
    rw [hei] at hei';cases hei'
    obtain ⟨hs,hm⟩:=h.addRow (t:=t) (b := .rowL e ei.size l false) (x:=x) ht trivial hlive (fun β hv=>(hrow.vblk_ge hv).1)
     (fun hm=>⟨hpos,hsz,vs,by rw [upd_same];exact hrow.base hBB,hcells,fun β hv=>by rw [upd_same] at hv;rw [hp β hv];exact ⟨Nat.zero_le _,fun _=>rfl⟩⟩)
    have hus:used (upd st t (.rowL e ei.size l false)) t:=by unfold used;rw [upd_same];simp
    have hgt:upd g t x t=x:=upd_same _ _ _
    have hrc:=RepC.row (w:=w) (p:=p) (g:=upd g t x) (u:=used (upd st t (.rowL e ei.size l false))) (k:=t) hus (by rw [hgt];exact hrow.slice)
    rw [hgt] at hrc
    exact ⟨_,_,_,_,hk2,hs,hm,.inl hrc⟩
  ·cases hk
 ·have hk2:=norm_inv hk
  have hro:RepO w p x v:=by
   rcases hr with hr | ⟨i',e',l',hi',hk',he,_⟩ | ⟨i',e',ei,l',vs,_,_,_,he,_⟩
   ·exact hr
   ·subst he
    have:=norm_cts hk
    exact this.elim
   ·subst he
    have:=norm_cts hk
    exact this.elim
  exact ⟨_,_,_,g,hk2,h,Mono.refl,hro.repW⟩
end
end Go.Abs
