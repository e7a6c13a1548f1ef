/- Every operation is local in the store. -/
import Derived.Test.YtmipfdjcnkljnaaAbsLoc
open List renaming mem_append→Zz,mem_cons→Zy
namespace Go.Abs
set_option linter.unusedVariables false
theorem IsLoc.pureO {A B:Type} {T:(β:Type)→(B→Option β)→Option β} {f:B→A} (h:∀ {α:Type} {k:B→Option α} {r:α},T α k=some r→∃ b,k b=some r∧∀ β k2,T β k2=k2 b):IsLoc (fun β s k=>T β fun b=>k (f b) s .none):=by
 refine ⟨fun {α st k r} hk=> ?_⟩
 obtain ⟨b,hb,ht⟩:=h hk
 exact ⟨_,_,_,hb,(Loc.ret _ _).congr fun s _ β k=>by rw [ht]⟩
theorem loadCells_det {i:TI} {cs:List AV} {α:Type} {k:AV→Option α} {r:α} (h:loadCells i cs k=some r):∃ b,k b=some r∧∀ (β:Type) (k2:AV→Option β),loadCells i cs k2=k2 b:=by
 unfold loadCells at h ⊢
 obtain ⟨hb,h1⟩:=bif_inv h
 rw [hb]
 split at h1
 ·exact ⟨_,h1,fun β k2=>by simp⟩
 ·cases cs with
  | nil=>cases h1
  | cons c cs=>exact ⟨_,h1,fun β k2=>by simp⟩
theorem norm_det {i:TI} {v:AV} {α:Type} {k:AV→Option α} {r:α} (h:norm i v k=some r):k v=some r∧∀ (β:Type) (k2:AV→Option β),norm i v k2=k2 v:=by
 have h1:=norm_inv h
 refine ⟨h1,fun β k2=> ?_⟩
 rw [norm_cps] at h ⊢
 obtain ⟨x,hx,hx2⟩:=bind_inv h
 have:=norm_inv hx
 cases this
 rw [hx];rfl
theorem pickP_det {α:Type}:∀ {l:List Nat} {n:Nat} {f:Nat→Option α} {r:α},pickP l n f=some r→∃ o,f o=some r∧∀ (β:Type) (f2:Nat→Option β),pickP l n f2=f2 o
 | [],n,f,r,h=>by cases h
 | o::l,n,f,r,h=>by
  simp only [pickP,sel] at h ⊢
  cases hb:Nat.beq n 0 with
  | true=>rw [hb] at h;exact ⟨o,h,fun _ _=>rfl⟩
  | false=>rw [hb] at h;exact pickP_det h
theorem onU8_det {v:AV} {α:Type} {f:UInt8→Option α} {r:α} (h:v.onU8 f=some r):∃ b,v = .u8 b∧f b=some r:=by
 unfold AV.onU8 at h;split at h
 ·exact ⟨_,rfl,h⟩
 ·cases h
section
variable (E:Env) (sl:Nat→AV)
theorem loc_newBlk (t:Nat) (b:Blk) (v:AV):IsLoc (fun β s k=>newBlk ⟨sl,s⟩ t b v k):=by
 refine ⟨fun {α st k r} hk=> ?_⟩
 unfold newBlk at hk
 split at hk
 ·rename_i hs
  refine ⟨_,_,_,hk,Loc.set1 fun s2 h2 β k2=> ?_⟩
  have:=h2 t (by simp)
  simp only at hs
  simp [newBlk,this,hs]
 ·cases hk
theorem loc_doLoad (i:TI) (a:AV):IsLoc (fun β s k=>doLoad E ⟨sl,s⟩ i a k):=by
 refine ⟨fun {α st k r} hk=> ?_⟩
 unfold doLoad at hk
 split at hk
 ·rename_i b off
  split at hk
  ·rename_i cs hs
   obtain ⟨v,h1,h2⟩:=loadCells_det hk
   refine ⟨_,_,_,h1,Loc.reads fun s2 hs2 β k2=> ?_⟩
   have e:=(hs2 b (by simp)).trans hs
   simp only [doLoad,e,h2]
  ·cases hk
 ·obtain ⟨v,h1,h2⟩:=loadCells_det hk
  exact ⟨_,_,_,h1,(Loc.ret _ _).congr fun s _ β k=>by simp only [doLoad,h2]⟩
 ·rename_i b off
  split at hk
  ·rename_i e hkd
   obtain ⟨hc,h1⟩:=chk_inv hk
   exact ⟨_,_,_,h1,(Loc.ret _ _).congr fun s _ β k=>by simp only [doLoad,hkd,hc,chk,cond_true]⟩
  ·cases hk
 ·rename_i b j sz off
  split at hk
  ·rename_i e l q hs
   obtain ⟨hc,h1⟩:=chk_inv hk
   refine ⟨_,_,_,h1,Loc.reads fun s2 hs2 β k2=> ?_⟩
   have e:=(hs2 b (by simp)).trans hs
   simp only [doLoad,e,hc,chk,cond_true]
  ·rename_i l q hs
   obtain ⟨hc,h1⟩:=chk_inv hk
   refine ⟨_,_,_,h1,Loc.reads fun s2 hs2 β k2=> ?_⟩
   have e:=(hs2 b (by simp)).trans hs
   simp only [doLoad,e,hc,chk,cond_true]
  ·rename_i e z l q hs
   split at hk
   ·rename_i ei hei
    obtain ⟨hc,h1⟩:=chk_inv hk
    obtain ⟨h2,h3⟩:=norm_det h1
    obtain ⟨v,h4,h5⟩:=loadCells_det h2
    refine ⟨_,_,_,h4,Loc.reads fun s2 hs2 β k2=> ?_⟩
    have e:=(hs2 b (by simp)).trans hs
    simp only [doLoad,e,hei,hc,chk,cond_true,h3,h5]
   ·cases hk
  ·cases hk
 ·cases hk
theorem loc_doFieldAddr (q:Nat) (v:AV):IsLoc (fun β s k=>doFieldAddr ⟨sl,s⟩ q v k):=by
 unfold doFieldAddr
 split<;>first | exact IsLoc.ret _ | exact IsLoc.none
theorem loc_bytesOf (v:AV):IsLoc (A:=List UInt8) (fun β s k=>bytesOf s v fun l fp=>k l s fp):=by
 refine ⟨fun {α st k r} hk=> ?_⟩
 unfold bytesOf at hk
 split at hk
 ·exact ⟨_,_,_,hk,(Loc.ret _ _).congr fun s _ β k=>by simp only [bytesOf]⟩
 ·exact ⟨_,_,_,hk,(Loc.ret _ _).congr fun s _ β k=>by simp only [bytesOf]⟩
 ·rename_i b
  split at hk
  ·rename_i e l q hs
   refine ⟨_,_,_,hk,Loc.reads fun s2 hs2 β k2=> ?_⟩
   have e:=(hs2 b (by simp)).trans hs
   simp only [bytesOf,e]
  ·cases hk
 ·cases hk
theorem loc_lenOf (v:AV):IsLoc (A:=Nat) (fun β s k=>lenOf s v fun l fp=>k l s fp):=by
 refine ⟨fun {α st k r} hk=> ?_⟩
 unfold lenOf at hk
 split at hk
 ·exact ⟨_,_,_,hk,(Loc.ret _ _).congr fun s _ β k=>by simp only [lenOf]⟩
 ·exact ⟨_,_,_,hk,(Loc.ret _ _).congr fun s _ β k=>by simp only [lenOf]⟩
 ·exact ⟨_,_,_,hk,(Loc.ret _ _).congr fun s _ β k=>by simp only [lenOf]⟩
 ·exact ⟨_,_,_,hk,(Loc.ret _ _).congr fun s _ β k=>by simp only [lenOf]⟩
 ·rename_i b
  split at hk
  ·rename_i e l q hs
   refine ⟨_,_,_,hk,Loc.reads fun s2 hs2 β k2=> ?_⟩
   have e:=(hs2 b (by simp)).trans hs
   simp only [lenOf,e]
  ·rename_i e z l q hs
   refine ⟨_,_,_,hk,Loc.reads fun s2 hs2 β k2=> ?_⟩
   have e:=(hs2 b (by simp)).trans hs
   simp only [lenOf,e]
  ·cases hk
 ·cases hk
theorem loc_doLen (i:TI) (v:AV):IsLoc (fun β s k=>doLen ⟨sl,s⟩ i v k):=by
 unfold doLen
 split
 ·cases v<;>first | exact IsLoc.ret _ | exact IsLoc.none
 ·exact IsLoc.map (f:=fun n:Nat=>AV.int .i64 n) (loc_lenOf v)
 ·exact IsLoc.none
theorem loc_doIndex (i:TI) (x ix:AV):IsLoc (fun β s k=>doIndex ⟨sl,s⟩ i x ix k):=by
 unfold doIndex
 split
 ·exact (IsLoc.ret _).chk _
 ·exact IsLoc.none
theorem loc_doConvert (s0 d:TI) (x:AV):IsLoc (fun β s k=>doConvert ⟨sl,s⟩ s0 d x k):=by
 unfold doConvert
 split
 ·split<;>first | exact IsLoc.ret _ | exact IsLoc.none
 ·split<;>first | exact IsLoc.ret _ | exact IsLoc.none
 ·split
  ·cases x<;>first | exact IsLoc.ret _ | exact IsLoc.none
  ·exact IsLoc.map (f:=fun l=>AV.str l) (loc_bytesOf x)
  ·exact IsLoc.none
 ·split
  ·cases x<;>first | exact IsLoc.ret _ | exact IsLoc.none
  ·exact IsLoc.none
 ·exact IsLoc.none
theorem loc_doIndexAddr (i:TI) (x ix:AV):IsLoc (fun β s k=>doIndexAddr E ⟨sl,s⟩ i x ix k):=by
 refine ⟨fun {α st k r} hk=> ?_⟩
 unfold doIndexAddr at hk
 split at hk
 ·rename_i e x n m hkd hm
  split at hk
  ·obtain ⟨hc,h1⟩:=chk_inv hk
   exact ⟨_,_,_,h1,(Loc.ret _ _).congr fun s _ β k=>by simp only [doIndexAddr,hkd,hm,hc,chk,cond_true]⟩
  ·rename_i b
   split at hk
   ·rename_i e l q hs
    obtain ⟨hc,h1⟩:=chk_inv hk
    refine ⟨_,_,_,h1,Loc.reads fun s2 hs2 β k2=> ?_⟩
    have e:=(hs2 b (by simp)).trans hs
    simp only [doIndexAddr,hkd,hm,e,hc,chk,cond_true]
   ·cases hk
  ·cases hk
 ·rename_i e x n m hkd hm
  split at hk
  ·rename_i ei hei
   split at hk
   ·obtain ⟨hc,h1⟩:=chk_inv hk
    obtain ⟨h2,h3⟩:=norm_det h1
    exact ⟨_,_,_,h2,(Loc.ret _ _).congr fun s _ β k=>by simp only [doIndexAddr,hkd,hm,hei,hc,chk,cond_true,h3]⟩
   ·rename_i b offs
    obtain ⟨hc,h1⟩:=chk_inv hk
    obtain ⟨o,h2,h3⟩:=pickP_det h1
    exact ⟨_,_,_,h2,(Loc.ret _ _).congr fun s _ β k=>by simp only [doIndexAddr,hkd,hm,hei,hc,chk,cond_true,h3]⟩
   ·rename_i b
    split at hk
    ·rename_i e z l q hs
     obtain ⟨hc,h1⟩:=chk_inv hk
     refine ⟨_,_,_,h1,Loc.reads fun s2 hs2 β k2=> ?_⟩
     have e:=(hs2 b (by simp)).trans hs
     simp only [doIndexAddr,hkd,hm,hei,e,hc,chk,cond_true]
    ·cases hk
   ·cases hk
  ·cases hk
 ·rename_i len e b m hkd hm
  split at hk
  ·rename_i l q hs
   obtain ⟨hc,h1⟩:=chk_inv hk
   refine ⟨_,_,_,h1,Loc.reads fun s2 hs2 β k2=> ?_⟩
   have e:=(hs2 b (by simp)).trans hs
   simp only [doIndexAddr,hkd,hm,e,hc,chk,cond_true]
  ·cases hk
 ·rename_i len e b off m hkd hm
  split at hk
  ·rename_i ei hei
   obtain ⟨hc,h1⟩:=chk_inv hk
   exact ⟨_,_,_,h1,(Loc.ret _ _).congr fun s _ β k=>by simp only [doIndexAddr,hkd,hm,hei,hc,chk,cond_true]⟩
  ·cases hk
 ·rename_i len e cs m hkd hm
  split at hk
  ·rename_i ei hei
   obtain ⟨hc,h1⟩:=chk_inv hk
   obtain ⟨h2,h3⟩:=norm_det h1
   exact ⟨_,_,_,h2,(Loc.ret _ _).congr fun s _ β k=>by simp only [doIndexAddr,hkd,hm,hei,hc,chk,cond_true,h3]⟩
  ·cases hk
 ·cases hk
end
end Go.Abs
/- Every operation is local in the store: those that change it. -/
namespace Go.Abs
set_option linter.unusedVariables false
section
variable (E:Env) (sl:Nat→AV)
def writeEl (ei:TI) (i:TI) (b j z off:Nat) (v':AV):StT AV:=fun β s k=>match s b with
 | .rowL e1 z1 l1 false=>norm ei (l1.getD j .undef) fun old =>
   bif v'.cells.length==i.size&&Nat.ble (off+i.size) old.cells.length&&Nat.blt 0 i.size&&Nat.beq z1 z&&Nat.blt j l1.length then
    k .undef (upd s b (.rowL e1 z1 (l1.set j (setEl ei old off v'.cells)) false)) ⟨[b],[b]⟩
   else none
 | _=>none
theorem merge_upd2 {t r:Nat} {st st2:Nat→Blk} {b c:Blk}:merge [t,r] (upd (upd st r c) t b) st2=upd (upd st2 r c) t b:=by
 funext x
 unfold merge
 by_cases e:x=t
 ·subst e;simp [upd_same]
 ·by_cases e2:x=r
  ·subst e2;simp [upd_ne _ _ e,upd_same]
  ·simp [e,e2,upd_ne _ _ e,upd_ne _ _ e2]
theorem loc_doStore (i:TI) (a v:AV):IsLoc (fun β s k=>doStore E ⟨sl,s⟩ i a v k):=by
 refine ⟨fun {α st k r} hk=> ?_⟩
 unfold doStore at hk
 split at hk
 ·rename_i b off
  split at hk
  ·rename_i cs hs
   obtain ⟨hc,h1⟩:=bif_inv hk
   refine ⟨_,_,_,h1,Loc.set1 fun s2 hs2 β k2=> ?_⟩
   have e:=(hs2 b (by simp)).trans hs
   simp only [doStore,e,hc,cond_true]
  ·cases hk
 ·rename_i b j sz off
  split at hk
  ·rename_i e l q hs
   obtain ⟨x,rfl,h1⟩:=onU8_det hk
   obtain ⟨hc,h2⟩:=chk_inv h1
   refine ⟨_,_,_,h2,Loc.set1 fun s2 hs2 β k2=> ?_⟩
   have e:=(hs2 b (by simp)).trans hs
   simp only [doStore,e,AV.onU8,hc,chk,cond_true]
  ·rename_i l q hs
   obtain ⟨x,rfl,h1⟩:=onU8_det hk
   obtain ⟨hc,h2⟩:=chk_inv h1
   refine ⟨_,_,_,h2,Loc.set1 fun s2 hs2 β k2=> ?_⟩
   have e:=(hs2 b (by simp)).trans hs
   simp only [doStore,e,AV.onU8,hc,chk,cond_true]
  ·rename_i e z l q hs
   split at hk
   ·rename_i ei hei
    obtain ⟨hc,h1⟩:=chk_inv hk
    obtain ⟨v',st1,f1,h2,l1⟩:=(loc_out i v).go h1
    split at h2
    ·rename_i e1 z1 l1' hs1
     obtain ⟨h3,h4⟩:=norm_det h2
     obtain ⟨hc2,h5⟩:=bif_inv h3
     refine ⟨_,_,_,h5,?_⟩
     have l2:Loc (writeEl ei i b j z off v') st1 .undef (upd st1 b (.rowL e1 z1 (l1'.set j (setEl ei (l1'.getD j .undef) off v'.cells)) false)) ⟨[b],[b]⟩ :=
      Loc.set1 fun s2 hs2 β k2=>by
       have e:=(hs2 b (by simp)).trans hs1
       simp only [writeEl,e,h4,hc2,cond_true]
     have l3:=Loc.bind (f:=fun _ c=>c) (U:=fun v'=>writeEl ei i b j z off v') l1 l2
     refine l3.congr fun s hs0 β k=> ?_
     have hm:b∈(FP.add f1 ⟨[b],[b]⟩).rd:=List.mem_append.2 (.inr (List.mem_singleton.2 rfl))
     have e:s b = .rowL e z l q:=(hs0 b hm).trans hs
     simp only [doStore,e,hei,hc,chk,cond_true,writeEl]
     rfl
    ·cases h2
   ·cases hk
  ·cases hk
 ·cases hk
theorem onBs_det {v:AV} {α:Type} {f:List UInt8→Option α} {r:α} (h:v.onBs f=some r):∃ b,v = .bs b∧f b=some r:=by
 unfold AV.onBs at h;split at h
 ·exact ⟨_,rfl,h⟩
 ·cases h
theorem loc_doSlice3 (i:TI) (x:AV) (lo:Option AV) (hi m:AV):IsLoc (fun β s k=>doSlice3 E ⟨sl,s⟩ i x lo hi m k):=by
 unfold doSlice3
 split
 ·refine ⟨fun {α st k r} hk=> ?_⟩
  obtain ⟨v,st1,f1,h1,l1⟩:=(loc_out1 .bsl x).go hk
  obtain ⟨l,rfl,h2⟩:=onBs_det h1
  split at h2
  ·rename_i a b c ha hb hc0
   obtain ⟨hc,h3⟩:=chk_inv h2
   refine ⟨_,_,_,h3,⟨l1.eff,fun s hs β k=> ?_⟩⟩
   rw [l1.run s hs]
   simp only [AV.onBs,ha,hb,hc0,hc,chk,cond_true]
  ·cases h2
 ·split
  ·refine IsLoc.chk _ ?_
   split<;>first | exact IsLoc.ret _ | exact IsLoc.none
  ·exact IsLoc.none
 ·exact IsLoc.none
theorem loc_doView (i:TI) (x:AV) (lo hi:Option AV):IsLoc (fun β s k=>doView ⟨sl,s⟩ i x lo hi k):=by
 refine ⟨fun {α st k r} hk=> ?_⟩
 unfold doView at hk
 split at hk
 ·rename_i e b hkd
  split at hk
  ·rename_i e' l q hs
   split at hk
   ·rename_i hv
    split at hk
    ·rename_i n hn
     obtain ⟨hc,h3⟩:=chk_inv hk
     refine ⟨_,_,_,h3,Loc.reads fun s2 hs2 β k2=> ?_⟩
     have e:=(hs2 b (by simp)).trans hs
     simp only [doView,hkd,e,hn,hc,chk,cond_true]
    ·cases hk
   ·rename_i hv
    split at hk
    ·rename_i n hn
     obtain ⟨hc,h3⟩:=chk_inv hk
     refine ⟨_,_,_,h3,Loc.reads fun s2 hs2 β k2=> ?_⟩
     have e:=(hs2 b (by simp)).trans hs
     simp only [doView,hkd,e,hn,hc,chk,cond_true]
    ·cases hk
   ·cases hk
  ·cases hk
 ·cases hk
theorem loc_doSlice (i:TI) (x:AV) (lo hi mx:Option AV):IsLoc (fun β s k=>doSlice E ⟨sl,s⟩ i x lo hi mx k):=by
 unfold doSlice
 split
 ·exact IsLoc.none
 ·split
  ·cases x<;>simp only [AV.onStr]<;>try exact IsLoc.none
   split
   ·exact (IsLoc.ret _).chk _
   ·exact IsLoc.none
  ·refine ⟨fun {α st k r} hk=> ?_⟩
   obtain ⟨v,st1,f1,h1,l1⟩:=(loc_out1 .bsl x).go hk
   obtain ⟨l,rfl,h2⟩:=onBs_det h1
   split at h2
   ·rename_i a b ha hb
    obtain ⟨hc,h3⟩:=chk_inv h2
    refine ⟨_,_,_,h3,⟨l1.eff,fun s hs β k=> ?_⟩⟩
    rw [l1.run s hs]
    simp only [AV.onBs,ha,hb,hc,chk,cond_true]
   ·cases h2
  ·split
   ·rename_i ei hei
    refine ⟨fun {α st k r} hk=> ?_⟩
    obtain ⟨v,st1,f1,h1,l1⟩:=(loc_out1 (.sl ei.size) x).go hk
    obtain ⟨l,rfl,h2⟩:=onSl_inv h1
    split at h2
    ·rename_i a b ha hb
     obtain ⟨hc,h3⟩:=chk_inv h2
     refine ⟨_,_,_,h3,⟨l1.eff,fun s hs β k=> ?_⟩⟩
     rw [l1.run s hs]
     simp only [AV.onSl,Nat.beq_refl,cond_true,ha,hb,hc,chk]
    ·cases h2
   ·exact IsLoc.none
  ·split
   ·rename_i b
    refine ⟨fun {α st k r} hk=> ?_⟩
    split at hk
    ·rename_i l q hs
     split at hk
     ·rename_i a c ha hb
      obtain ⟨hc,h3⟩:=chk_inv hk
      refine ⟨_,_,_,h3,Loc.set1 fun s2 hs2 β k2=> ?_⟩
      have e:=(hs2 b (by simp)).trans hs
      simp only [e,ha,hb,hc,chk,cond_true]
     ·cases hk
    ·cases hk
   ·exact IsLoc.none
  ·exact IsLoc.none
end
end Go.Abs
/- Every operation is local in the store: append, literals, calls; all of them. -/
namespace Go.Abs
set_option linter.unusedVariables false
section
variable (E:Env) (sl:Nat→AV)
theorem loc_appB (t e:Nat) (s:AV) (new:List UInt8) (fp:FP) {α:Type} {st:Nat→Blk} {k:Ret α} {r:α} (hk:appB ⟨sl,st⟩ t e s new fp k=some r) (hf:fp.wr=[]) :
  ∃ a st' fp',k a st' fp'=some r∧(∀ x,x ∉ fp'.wr→st' x=st x)∧(∀ x∈fp.rd,x∈fp'.rd)∧t∈fp'.rd∧∀ st2,(∀ x∈fp'.rd,st2 x=st x)→∀ (β:Type) (k2:Ret β),appB ⟨sl,st2⟩ t e s new fp k2=k2 a (merge fp'.wr st' st2) fp':=by
 unfold appB at hk
 split at hk
 ·obtain ⟨hc,h1⟩:=chk_inv hk
  refine ⟨_,_,_,h1,fun x hx=>upd_ne _ _ (by simpa using hx),fun x hx=>by simp [hx],by simp,fun st2 h2 β k2=> ?_⟩
  simp only [appB,hc,chk,cond_true]
  rw [merge_upd1]
 ·rename_i b
  split at hk
  ·rename_i e' l q hs
   obtain ⟨hc,h1⟩:=chk_inv hk
   refine ⟨_,_,_,h1,fun x hx=> ?_,fun x hx=>by simp [hx],by simp,fun st2 h2 β k2=> ?_⟩
   ·simp only [Zy,List.not_mem_nil,or_false,not_or] at hx
    show upd (upd st b .dead) t _ x=st x
    rw [upd_ne _ _ hx.1,upd_ne _ _ hx.2]
   ·have e:=(h2 b (by simp)).trans hs
    simp only [appB,e,hc,chk,cond_true]
    rw [merge_upd2]
  ·cases hk
 ·cases hk
theorem loc_appL (t e:Nat) (ei:TI) (s:AV) (new:List AV) (fp:FP) {α:Type} {st:Nat→Blk} {k:Ret α} {r:α} (hk:appL ⟨sl,st⟩ t e ei s new fp k=some r) (hf:fp.wr=[]) :
  ∃ a st' fp',k a st' fp'=some r∧(∀ x,x ∉ fp'.wr→st' x=st x)∧(∀ x∈fp.rd,x∈fp'.rd)∧t∈fp'.rd∧∀ st2,(∀ x∈fp'.rd,st2 x=st x)→∀ (β:Type) (k2:Ret β),appL ⟨sl,st2⟩ t e ei s new fp k2=k2 a (merge fp'.wr st' st2) fp':=by
 unfold appL at hk
 split at hk
 ·obtain ⟨hc,h1⟩:=chk_inv hk
  refine ⟨_,_,_,h1,fun x hx=>upd_ne _ _ (by simpa using hx),fun x hx=>by simp [hx],by simp,fun st2 h2 β k2=> ?_⟩
  simp only [appL,hc,chk,cond_true]
  rw [merge_upd1]
 ·rename_i b
  split at hk
  ·rename_i e' z l q hs
   obtain ⟨hc,h1⟩:=chk_inv hk
   refine ⟨_,_,_,h1,fun x hx=> ?_,fun x hx=>by simp [hx],by simp,fun st2 h2 β k2=> ?_⟩
   ·simp only [Zy,List.not_mem_nil,or_false,not_or] at hx
    show upd (upd st b .dead) t _ x=st x
    rw [upd_ne _ _ hx.1,upd_ne _ _ hx.2]
   ·have e:=(h2 b (by simp)).trans hs
    simp only [appL,e,hc,chk,cond_true]
    rw [merge_upd2]
  ·cases hk
 ·cases hk
theorem loc_appS (t e:Nat) (s:AV) (r0 m:Nat) {α:Type} {st:Nat→Blk} {k:Ret α} {r:α} (hk:appS ⟨sl,st⟩ t e s r0 m k=some r) :
  ∃ a st' fp',k a st' fp'=some r∧(∀ x,x ∉ fp'.wr→st' x=st x)∧t∈fp'.rd∧∀ st2,(∀ x∈fp'.rd,st2 x=st x)→∀ (β:Type) (k2:Ret β),appS ⟨sl,st2⟩ t e s r0 m k2=k2 a (merge fp'.wr st' st2) fp':=by
 unfold appS at hk
 split at hk
 ·split at hk
  ·rename_i e' l q hs
   obtain ⟨hc,h1⟩:=chk_inv hk
   refine ⟨_,_,_,h1,fun x hx=> ?_,by simp,fun st2 h2 β k2=> ?_⟩
   ·simp only [Zy,List.not_mem_nil,or_false,not_or] at hx
    show upd (upd st r0 .dead) t _ x=st x
    rw [upd_ne _ _ hx.1,upd_ne _ _ hx.2]
   ·have e:=(h2 r0 (by simp)).trans hs
    simp only [appS,e,hc,chk,cond_true]
    rw [merge_upd2]
  ·cases hk
 ·cases hk
theorem bytesOf_loc {st:Nat→Blk} {v:AV} {α:Type} {k:List UInt8→FP→Option α} {r:α} (h:bytesOf st v k=some r):∃ l fp,k l fp=some r∧fp.wr=[]∧∀ st2,(∀ x∈fp.rd,st2 x=st x)→∀ (β:Type) (k2:List UInt8→FP→Option β),bytesOf st2 v k2=k2 l fp:=by
 unfold bytesOf at h
 split at h
 ·exact ⟨_,_,h,rfl,fun st2 _ β k2=>by simp only [bytesOf]⟩
 ·exact ⟨_,_,h,rfl,fun st2 _ β k2=>by simp only [bytesOf]⟩
 ·rename_i b
  split at h
  ·rename_i e l q hs
   exact ⟨_,_,h,rfl,fun st2 h2 β k2=>by have e:=(h2 b (by simp)).trans hs;simp only [bytesOf,e]⟩
  ·cases h
 ·cases h
theorem elsOf_loc {sz:Nat} {st:Nat→Blk} {v:AV} {α:Type} {k:List AV→FP→Option α} {r:α} (h:elsOf sz st v k=some r):∃ l fp,k l fp=some r∧fp.wr=[]∧∀ st2,(∀ x∈fp.rd,st2 x=st x)→∀ (β:Type) (k2:List AV→FP→Option β),elsOf sz st2 v k2=k2 l fp:=by
 unfold elsOf at h
 split at h
 ·obtain ⟨hc,h1⟩:=bif_inv h
  exact ⟨_,_,h1,rfl,fun st2 _ β k2=>by simp only [elsOf,hc,cond_true]⟩
 ·exact ⟨_,_,h,rfl,fun st2 _ β k2=>by simp only [elsOf]⟩
 ·rename_i b
  split at h
  ·rename_i e z l q hs
   obtain ⟨hc,h1⟩:=bif_inv h
   exact ⟨_,_,h1,rfl,fun st2 h2 β k2=>by have e:=(h2 b (by simp)).trans hs;simp only [elsOf,e,hc,cond_true]⟩
  ·cases h
 ·cases h
theorem loc_doAppend (t:Nat) (i:TI) (s x:AV):IsLoc (fun β st k=>doAppend E ⟨sl,st⟩ t i s x k):=by
 refine ⟨fun {α st k r} hk=> ?_⟩
 have hk0:=hk
 unfold doAppend at hk
 split at hk
 ·rename_i ht
  split at hk
  ·rename_i e hkd
   split at hk
   ·rename_i l
    obtain ⟨a,st',fp',h1,h2,h3,h4,h5⟩:=loc_appB sl t e s l .none hk rfl
    refine ⟨a,st',fp',h1,h2,fun st2 hs β k2=> ?_⟩
    have e:=(hs t h4).trans ht
    simp only [doAppend,e,hkd]
    exact h5 st2 hs β k2
   ·rename_i r0 m
    obtain ⟨a,st',fp',h1,h2,h4,h5⟩:=loc_appS sl t e s r0 m hk
    refine ⟨a,st',fp',h1,h2,fun st2 hs β k2=> ?_⟩
    have e:=(hs t h4).trans ht
    simp only [doAppend,e,hkd]
    exact h5 st2 hs β k2
   ·rename_i y hy
    obtain ⟨new,fp,g1,g2,g3⟩:=bytesOf_loc hk
    obtain ⟨a,st',fp',h1,h2,h3,h4,h5⟩:=loc_appB sl t e s new fp g1 g2
    refine ⟨a,st',fp',h1,h2,fun st2 hs β k2=> ?_⟩
    have e:=(hs t h4).trans ht
    simp only [doAppend,e,hkd]
    rw [g3 st2 fun x hx=>hs x (h3 x hx)]
    exact h5 st2 hs β k2
  ·rename_i e hkd
   split at hk
   ·cases hk
   ·rename_i ei hei
    obtain ⟨new,fp,g1,g2,g3⟩:=elsOf_loc hk
    obtain ⟨a,st',fp',h1,h2,h3,h4,h5⟩:=loc_appL sl t e ei s new fp g1 g2
    refine ⟨a,st',fp',h1,h2,fun st2 hs β k2=> ?_⟩
    have e:=(hs t h4).trans ht
    simp only [doAppend,e,hkd,hei]
    rw [g3 st2 fun x hx=>hs x (h3 x hx)]
    exact h5 st2 hs β k2
  ·cases hk
 ·cases hk
theorem loc_doMake (t:Nat) (i:TI) (l c:AV):IsLoc (fun β s k=>doMake ⟨sl,s⟩ t i l c k):=by
 unfold doMake
 split
 ·exact (loc_newBlk sl _ _ _).chk _
 ·exact IsLoc.none
theorem loc_doBuild (i:TI) (ps:List (Nat×AV)):IsLoc (fun β s k=>doBuild E i ⟨sl,s⟩ ps k):=by
 unfold doBuild
 split
 ·split
  ·exact IsLoc.ret _
  ·exact IsLoc.none
 ·exact IsLoc.none
theorem loc_outParts (ei:TI):∀ (ps:List (Nat×AV)),IsLoc (fun β s k=>outParts ei ps s k)
 | []=>(IsLoc.ret []).of_eq fun _ _ _=>rfl
 | (i,v)::r=>(IsLoc.bind (f:=fun a l=>(i,a)::l) (loc_out ei v) fun _=>loc_outParts ei r).of_eq fun _ _ _=>by simp only [outParts]
theorem loc_doBuildOwn (d:Nat) (i:TI) (len:Nat) (ps:List (Nat×AV)):IsLoc (fun β s k=>doBuildOwn E ⟨sl,s⟩ d i len ps k):=by
 unfold doBuildOwn
 split
 ·split
  ·split
   ·exact (loc_newBlk sl _ _ _).cond _
   ·exact IsLoc.none
  ·exact IsLoc.none
 ·rename_i e _
  split
  ·rename_i ei _ _ _
   refine IsLoc.cond _ ?_
   refine (IsLoc.bind (f:=fun a l=>l) (loc_outParts ei ps) (U:=fun qs=>fun β s k=>match allParts 0 qs with | some els=>bif els.all (fun x=>Nat.beq x.cells.length ei.size) then newBlk ⟨sl,s⟩ d (.rowL e ei.size els false) (.row d) k else none | none=>none) fun qs=> ?_).of_eq fun β s k=> ?_
   ·split
    ·exact (loc_newBlk sl _ _ _).cond _
    ·exact IsLoc.none
   ·congr 1
  ·exact IsLoc.none
 ·exact IsLoc.none
theorem loc_doBuildSlice (i:TI) (len:Nat) (ps:List (Nat×AV)):IsLoc (fun β s k=>doBuildSlice E ⟨sl,s⟩ i len ps k):=by
 unfold doBuildSlice
 split
 ·split
  ·split
   ·exact IsLoc.ret _
   ·exact IsLoc.none
  ·split
   ·split
    ·exact (IsLoc.ret _).cond _
    ·exact IsLoc.none
   split
   ·rename_i ei _ _ _
    refine IsLoc.cond _ ⟨fun {α st k r} hk=> ?_⟩
    obtain ⟨qs,st1,f1,h1,l1⟩:=(loc_outParts ei ps).go hk
    split at h1
    ·rename_i els he
     split at h1
     ·split at h1
      ·rename_i l hu
       refine ⟨_,_,_,h1,⟨l1.eff,fun s hs β k=> ?_⟩⟩
       rw [l1.run s hs]
       simp only [he,hu]
      ·cases h1
     ·obtain ⟨hc,h2⟩:=bif_inv h1
      refine ⟨_,_,_,h2,⟨l1.eff,fun s hs β k=> ?_⟩⟩
      rw [l1.run s hs]
      simp only [he,hc,cond_true]
    ·cases h1
   ·exact IsLoc.none
 ·exact IsLoc.none
theorem loc_outArgs:∀ (j:Nat) (tys:List Nat) (vs:List AV),IsLoc (A:=List AV×List (Nat×Nat×List AV)) (fun β s k=>outArgs E j tys vs s fun l bl s1 fp=>k (l,bl) s1 fp)
 | j,[],[]=>(IsLoc.ret ([],[])).of_eq fun _ _ _=>rfl
 | j,ty::tys,v::vs=>by
  refine ⟨fun {α st k r} hk=> ?_⟩
  simp only [outArgs] at hk
  split at hk
  ·rename_i b off
   split at hk
   ·rename_i cs hst
    split at hk
    ·rename_i ei hei
     obtain ⟨hc,hk1⟩:=bif_inv hk
     obtain ⟨cs',st1,f1,hk2,l1⟩:=(loc_outCs ei.cts cs).go hk1
     obtain ⟨⟨l,bl⟩,st2,f2,hk3,l2⟩:=(loc_outArgs (j+1) tys vs).go (k:=fun x s f=>bif x.2.any (fun y=>y.2.1==b) then none else k (.ptr j 0::x.1,(j,b,cs')::x.2) s (FP.add ⟨b::f1.rd,b::f1.wr⟩ f)) hk2
     cases hany:(bl.any fun y=>y.2.1==b) with
     | true=>simp only [hany,cond_true] at hk3;cases hk3
     | false =>
      simp only [hany,cond_false] at hk3
      refine ⟨_,_,_,hk3,⟨fun x hx=> ?_,fun s hs β k2=> ?_⟩⟩
      ·simp only [FP.add,List.cons_append,Zy,Zz,not_or] at hx
       rw [l2.eff x hx.2.2,l1.eff x hx.2.1]
      ·simp only [FP.add,List.cons_append,Zy,Zz] at hs
       have e:=(hs b (.inl rfl)).trans hst
       simp only [outArgs,e,hei,hc,cond_true]
       rw [l1.run s fun x hx=>hs x (.inr (.inl hx))]
       have hr2:=l2.run (merge f1.wr st1 s) (fun x hx=>by
        simp only [merge]
        split
        ·rfl
        ·rename_i hn;rw [hs x (.inr (.inr hx)),l1.eff x hn]) β (fun x s f=>bif x.2.any (fun y=>y.2.1==b) then none else k2 (.ptr j 0::x.1,(j,b,cs')::x.2) s (FP.add ⟨b::f1.rd,b::f1.wr⟩ f))
       simp only at hr2
       rw [hr2]
       simp only [hany,cond_false]
       congr 1
       funext x
       simp only [merge,FP.add,List.cons_append,Zy,Zz]
       by_cases e2:x∈f2.wr
       ·simp [e2]
       ·by_cases e1:x∈f1.wr
        ·simp [e1,e2,l2.eff x e2]
        ·by_cases e0:x=b
         ·subst e0
          simp only [e1,e2,or_false,if_true,if_false]
          rw [l2.eff x e2,l1.eff x e1,hs x (.inl rfl)]
         ·simp [e0,e1,e2]
    ·cases hk
   ·cases hk
  ·rename_i hv
   split at hk
   ·rename_i i hi
    obtain ⟨a,st1,f1,hk1,l1⟩:=(loc_outA i v).go hk
    obtain ⟨⟨l,bl⟩,st2,f2,hk2,l2⟩:=(loc_outArgs (j+1) tys vs).go (k:=fun x s f=>k (a::x.1,x.2) s (f1.add f)) hk1
    refine ⟨_,_,_,hk2,?_⟩
    refine (Loc.bind (f:=fun a (x:List AV×List (Nat×Nat×List AV))=>(a::x.1,x.2)) (U:=fun _=>fun β s k=>outArgs E (j+1) tys vs s fun l bl s1 fp=>k (l,bl) s1 fp) l1 l2).congr fun s _ β k=> ?_
    simp only [outArgs,hi]
   ·cases hk
 | _,[],_::_=>IsLoc.none.of_eq fun _ _ _=>by simp [outArgs]
 | _,_::_,[]=>IsLoc.none.of_eq fun _ _ _=>by simp [outArgs]
end
end Go.Abs
/- Calls are local in the store; so is every operation. -/
namespace Go.Abs
set_option linter.unusedVariables false
section
variable (E:Env) (sl:Nat→AV)
theorem loc_inRes (own:Bool) (t:Nat) (i:TI) (v:AV):IsLoc (fun β s k=>inRes E own t i v s k):=by
 unfold inRes
 split
 ·rename_i e _
  refine ⟨fun {α st k r} hk=> ?_⟩
  split at hk
  ·rename_i hs
   obtain ⟨l,rfl,h1⟩:=onOwnB_inv hk
   refine ⟨_,_,_,h1,Loc.set1 fun s2 h2 β k2=> ?_⟩
   have e:=(h2 t (by simp)).trans hs
   simp only [e,AV.onOwnB]
  ·cases hk
 ·rename_i e _
  refine ⟨fun {α st k r} hk=> ?_⟩
  split at hk
  ·rename_i ei hs hei
   obtain ⟨l,rfl,h1⟩:=onOwnL_inv hk
   refine ⟨_,_,_,h1,Loc.set1 fun s2 h2 β k2=> ?_⟩
   have e:=(h2 t (by simp)).trans hs
   simp only [e,hei,AV.onOwnL]
  ·cases hk
 ·rename_i fs _
  unfold inStr
  split
  ·refine ⟨fun {α st k r} hk=> ?_⟩
   split at hk
   ·rename_i hs
    obtain ⟨cs,rfl,h1⟩:=onAgg_inv hk
    rw [normO_cps] at h1
    obtain ⟨⟨cs',l⟩,h2,h3⟩:=bind_inv h1
    refine ⟨_,_,_,h3,Loc.set1 fun s2 h4 β k2=> ?_⟩
    have e1:=(h4 t (by simp)).trans hs
    simp only [e1,AV.onAgg]
    rw [normO_cps,h2]
    rfl
   ·cases hk
  ·refine ⟨fun {α st k r} hk=> ?_⟩
   obtain ⟨h1,h2⟩:=norm_det hk
   exact ⟨_,_,_,h1,(Loc.ret _ _).congr fun s _ β k=>by rw [h2]⟩
 ·refine ⟨fun {α st k r} hk=> ?_⟩
  obtain ⟨h1,h2⟩:=norm_det hk
  exact ⟨_,_,_,h1,(Loc.ret _ _).congr fun s _ β k=>by rw [h2]⟩
theorem loc_inTup:∀ (own:Bool) (t:Nat) (tys:List Nat) (l:List AV),IsLoc (fun β s k=>inTup E own t tys l s k)
 | own,t,[],l=>by
  cases l with
  | nil=>exact (IsLoc.ret []).of_eq fun _ _ _=>rfl
  | cons x r=>exact IsLoc.none.of_eq fun _ _ _=>rfl
 | own,t,ty::tys,l=>by
  cases l with
  | nil =>
   refine IsLoc.none.of_eq fun _ _ _=> ?_
   simp only [inTup]
   cases E.ty ty<;>rfl
  | cons x r =>
   cases hty:E.ty ty with
   | none=>exact IsLoc.none.of_eq fun _ _ _=>by simp only [inTup,hty]
   | some i=>exact (IsLoc.bind (f:=fun a l=>a::l) (loc_inRes E own t i x) fun _=>loc_inTup false (t+4096) tys r).of_eq fun _ _ _=>by simp only [inTup,hty,onCons]
def backSt:List (Nat×Nat×List AV)→Blocks→(Nat→Blk)→Nat→Blk
 | (_,b,_)::r,cs::bs,st=>backSt r bs (upd st b (.cells cs))
 | _,_,st=>st
theorem inBlks_det:∀ {bl:List (Nat×Nat×List AV)} {bs:Blocks} {st:Nat→Blk} {α:Type} {k:(Nat→Blk)→Option α} {r:α},inBlks bl bs st k=some r→k (backSt bl bs st)=some r∧∀ (s:Nat→Blk) (β:Type) (k2:(Nat→Blk)→Option β),inBlks bl bs s k2=k2 (backSt bl bs s)
 | [],bs,st,α,k,r,h=>by
  obtain ⟨rfl,h⟩:=onNilB_inv h
  exact ⟨h,fun _ _ _=>rfl⟩
 | (j,b,old)::tl,bs,st,α,k,r,h=>by
  simp only [inBlks] at h
  obtain ⟨cs,bs',rfl,h⟩:=onConsB_inv h
  obtain ⟨h1,_,hd⟩:=normLikes_inv h
  obtain ⟨h2,h3⟩:=inBlks_det h1
  exact ⟨h2,fun s β k2=>by simp only [inBlks,onConsB,backSt];rw [hd];exact h3 _ β k2⟩
theorem backSt_at:∀ {bl:List (Nat×Nat×List AV)} {bs:Blocks} {s s2:Nat→Blk} {x:Nat},(x ∉ bl.map (·.2.1)→backSt bl bs s x=s x)∧(s x=s2 x→backSt bl bs s x=backSt bl bs s2 x)
 | [],bs,s,s2,x=>⟨fun _=>by cases bs<;>rfl,fun h=>by cases bs<;>exact h⟩
 | (j,b,old)::tl,[],s,s2,x=>⟨fun _=>rfl,fun h=>h⟩
 | (j,b,old)::tl,cs::bs,s,s2,x=>by
  refine ⟨fun hx=> ?_,fun h=> ?_⟩
  ·simp only [List.map_cons,Zy,not_or] at hx
   simp only [backSt]
   rw [(backSt_at (s2:=s2)).1 hx.2,upd_ne _ _ hx.1]
  ·simp only [backSt]
   refine (backSt_at).2 ?_
   by_cases e:x=b
   ·subst e;rw [upd_same,upd_same]
   ·rw [upd_ne _ _ e,upd_ne _ _ e];exact h
theorem outArgs_keys:∀ {j:Nat} {tys:List Nat} {vs:List AV} {st:Nat→Blk} {l:List AV} {bl:List (Nat×Nat×List AV)} {st':Nat→Blk} {fp:FP},(outArgs E j tys vs st fun l bl s fp=>trip (l,bl) s fp)=some ((l,bl),st',fp)→∀ x∈bl.map (·.2.1),x∈fp.wr∧x∈fp.rd
 | j,[],[],st,l,bl,st',fp,h=>by simp only [outArgs,trip] at h;cases h;intro x hx;simp at hx
 | j,ty::tys,v::vs,st,l,bl,st',fp,h=>by
  simp only [outArgs] at h
  split at h
  ·rename_i b off
   split at h
   ·rename_i cs hst
    split at h
    ·rename_i ei hei
     obtain ⟨hc,hk1⟩:=bif_inv h
     obtain ⟨cs',st1,f1,hk2,l1⟩:=(loc_outCs ei.cts cs).go hk1
     obtain ⟨⟨l',bl'⟩,st2,f2,hk3,l2⟩:=(loc_outArgs E (j+1) tys vs).go (k:=fun x s f=>bif x.2.any (fun y=>y.2.1==b) then none else trip (AV.ptr j 0::x.1,(j,b,cs')::x.2) s (FP.add ⟨b::f1.rd,b::f1.wr⟩ f)) hk2
     have ih:=outArgs_keys (l2.here _ trip)
     cases hany:(bl'.any fun y=>y.2.1==b) with
     | true=>simp only [hany,cond_true] at hk3;cases hk3
     | false =>
      simp only [hany,cond_false] at hk3
      cases hk3
      intro x hx
      simp only [List.map_cons,Zy] at hx
      simp only [FP.add,List.cons_append,Zy,Zz]
      rcases hx with hx | hx
      ·exact ⟨.inl hx,.inl hx⟩
      ·exact ⟨.inr (.inr (ih x hx).1),.inr (.inr (ih x hx).2)⟩
    ·cases h
   ·cases h
  ·split at h
   ·rename_i i hi
    obtain ⟨a,st1,f1,hk1,l1⟩:=(loc_outA i v).go h
    obtain ⟨⟨l',bl'⟩,st2,f2,hk2,l2⟩:=(loc_outArgs E (j+1) tys vs).go (k:=fun x s f=>trip (a::x.1,x.2) s (f1.add f)) hk1
    have ih:=outArgs_keys (l2.here _ trip)
    cases hk2
    intro x hx
    simp only [FP.add,Zz]
    exact ⟨.inr (ih x hx).1,.inr (ih x hx).2⟩
   ·cases h
 | _,[],_::_,_,_,_,_,_,h=>by simp [outArgs] at h
 | _,_::_,[],_,_,_,_,_,h=>by simp [outArgs] at h
end
end Go.Abs
/- Every operation is local in the store, and looks at its operands' slots alone. -/
namespace Go.Abs
set_option linter.unusedVariables false
section
variable (E:Env) (sl:Nat→AV)
theorem loc_call2 {U:StT AV} {j:Nat} {tys:List Nat} {vs:List AV} {st:Nat→Blk} {as:List AV} {bl:List (Nat×Nat×List AV)} {st1:Nat→Blk} {f1:FP} {bs:Blocks} {v:AV} {st2:Nat→Blk} {f2:FP}
  (l1:Loc (fun β s k=>outArgs E j tys vs s fun l bl s1 fp=>k (l,bl) s1 fp) st (as,bl) st1 f1) (l2:Loc U (backSt bl bs st1) v st2 f2) :
  Loc (fun β s k=>outArgs E j tys vs s fun l bl s1 fp=>U β (backSt bl bs s1) fun v s2 f2=>k v s2 (fp.add f2)) st v st2 (f1.add f2):=by
 have hkeys:∀ x∈bl.map (·.2.1),x∈f1.wr∧x∈f1.rd:=outArgs_keys E (l1.here _ trip)
 refine ⟨fun x hx=> ?_,fun s hs β k=> ?_⟩
 ·simp only [FP.add,Zz,not_or] at hx
  rw [l2.eff x hx.2,(backSt_at (s2:=st1)).1 fun hm=>hx.1 (hkeys x hm).1,l1.eff x hx.1]
 ·simp only [FP.add,Zz] at hs
  have h1:=l1.run s (fun x hx=>hs x (.inl hx)) β (fun x s1 fp=>U β (backSt x.2 bs s1) fun v s2 f2=>k v s2 (fp.add f2))
  simp only at h1
  rw [h1,l2.run _ fun x hx=> ?_]
  ·congr 1
   funext x
   simp only [merge,FP.add,Zz]
   by_cases e2:x∈f2.wr
   ·simp [e2]
   ·by_cases e1:x∈f1.wr
    ·simp only [e1,e2,if_true,if_false,or_false]
     rw [l2.eff x e2]
     exact backSt_at.2 (by simp [merge,e1])
    ·simp only [e1,e2,if_false,or_self]
     rw [(backSt_at (s2:=st1)).1 fun hm=>e1 (hkeys x hm).1]
     simp [merge,e1]
  ·by_cases e1:x∈f1.wr
   ·exact backSt_at.2 (by simp [merge,e1])
   ·rw [(backSt_at (s2:=st1)).1 fun hm=>e1 (hkeys x hm).1,(backSt_at (s2:=st1)).1 fun hm=>e1 (hkeys x hm).1]
    simp only [merge,e1,if_false]
    rw [hs x (.inr hx),l1.eff x e1]
def inR (own:Bool) (t:Nat) (rt:List Nat) (v:AV):StT AV:=fun β s k =>
 match rt with
 | [ty]=>match E.ty ty with
  | some i=>inRes E own t i v s k
  | none=>none
 | rt=>v.onTup fun vs=>inTup E own t rt vs s fun l s2 f2=>k (.tup l) s2 f2
theorem loc_inR (own:Bool) (t:Nat) (rt:List Nat) (v:AV):IsLoc (inR E own t rt v):=by
 unfold inR
 split
 ·split
  ·exact loc_inRes E _ _ _ _
  ·exact IsLoc.none
 ·cases v<;>simp only [AV.onTup]<;>first | exact IsLoc.none | exact (loc_inTup E own t rt _).map
theorem doCall_eq {α:Type} (fr:Fr) (rts:Nat→Option (List Nat)) (t f:Nat) (tys:List Nat) (vs:List AV) (k:Ret α):doCall E fr rts t f tys vs k=match rts f with
  | none=>none
  | some rt=>outArgs E 0 tys vs fr.st fun as bl st fp=>(E.call f as (bl.map fun x=>(x.1,x.2.2))).bind fun r=>inBlks bl r.2 st fun st1=>inR E (E.own f) t rt r.1 α st1 fun v st2 f2=>k v st2 (fp.add f2):=by
 unfold doCall
 cases rts f with
 | none=>rfl
 | some rt =>
  rcases rt with _ | ⟨ty,_ | ⟨ty2,rt⟩⟩
  ·rfl
  ·simp only [inR]
   rfl
  ·rfl
theorem loc_doCall (rts:Nat→Option (List Nat)) (t f:Nat) (tys:List Nat) (vs:List AV):IsLoc (fun β s k=>doCall E ⟨sl,s⟩ rts t f tys vs k):=by
 refine ⟨fun {α st k r} hk=> ?_⟩
 rw [doCall_eq] at hk
 cases hrt:rts f with
 | none=>rw [hrt] at hk;cases hk
 | some rt =>
  rw [hrt] at hk
  simp only at hk
  obtain ⟨⟨as,bl⟩,st1,f1,hk1,l1⟩:=(loc_outArgs E 0 tys vs).go (k:=fun x st fp=>(E.call f x.1 (x.2.map fun x=>(x.1,x.2.2))).bind fun r=>inBlks x.2 r.2 st fun st1=>inR E (E.own f) t rt r.1 α st1 fun v st2 f2=>k v st2 (fp.add f2)) hk
  obtain ⟨⟨res,bs⟩,hcall,hk2⟩:=bind_inv hk1
  obtain ⟨hk3,hdet⟩:=inBlks_det hk2
  simp only at hk3 hcall hdet
  obtain ⟨v,st2,f2,hk4,l2⟩:=(loc_inR E (E.own f) t rt res).go hk3
  refine ⟨_,_,_,hk4,⟨(loc_call2 E l1 l2).eff,fun s hs β k2=> ?_⟩⟩
  have hl:=(loc_call2 E l1 l2).run s hs β k2
  rw [← hl,doCall_eq,hrt]
  have h1:=fun (K:List AV×List (Nat×Nat×List AV)→(Nat→Blk)→FP→Option β)=>l1.run s (fun x hx=>hs x (List.mem_append.2 (.inl hx))) β K
  have e1:=h1 fun x st fp=>(E.call f x.1 (x.2.map fun x=>(x.1,x.2.2))).bind fun r=>inBlks x.2 r.2 st fun st1=>inR E (E.own f) t rt r.1 β st1 fun v st2 f2=>k2 v st2 (fp.add f2)
  have e2:=h1 fun x s1 fp=>inR E (E.own f) t rt res β (backSt x.2 bs s1) fun v s2 f2=>k2 v s2 (fp.add f2)
  simp only at e1 e2 ⊢
  rw [e1,e2,hcall]
  simp only [Option.bind_some]
  rw [hdet]
theorem evalO_st (s s0:Nat→Blk) (x:Operand):evalO E ⟨sl,s⟩ x=evalO E ⟨sl,s0⟩ x:=by cases x<;>rfl
theorem evalAll_st (s s0:Nat→Blk):∀ (xs:List Operand),evalAll E ⟨sl,s⟩ xs=evalAll E ⟨sl,s0⟩ xs
 | []=>rfl
 | x::r=>by simp only [evalAll];rw [evalO_st E sl s s0 x,evalAll_st s s0 r]
theorem evalParts_st (s s0:Nat→Blk):∀ (xs:List (Nat×Operand)),evalParts E ⟨sl,s⟩ xs=evalParts E ⟨sl,s0⟩ xs
 | []=>rfl
 | (i,x)::r=>by simp only [evalParts];rw [evalO_st E sl s s0 x,evalParts_st s s0 r]
theorem IsLoc.ev {A:Type} {T:AV→StT A} (x:Operand) (h:∀ v,IsLoc (T v)):IsLoc (fun β s k=>(evalO E ⟨sl,s⟩ x).bind fun v=>T v β s k) :=
 (IsLoc.obind (evalO E ⟨sl,fun _ => .free⟩ x) h).of_eq fun β s k=>by rw [evalO_st E sl s (fun _ => .free) x]
theorem IsLoc.evA {A:Type} {T:List AV→StT A} (x:List Operand) (h:∀ v,IsLoc (T v)):IsLoc (fun β s k=>(evalAll E ⟨sl,s⟩ x).bind fun v=>T v β s k) :=
 (IsLoc.obind (evalAll E ⟨sl,fun _ => .free⟩ x) h).of_eq fun β s k=>by rw [evalAll_st E sl s (fun _ => .free) x]
theorem IsLoc.evP {A:Type} {T:List (Nat×AV)→StT A} (x:List (Nat×Operand)) (h:∀ v,IsLoc (T v)):IsLoc (fun β s k=>(evalParts E ⟨sl,s⟩ x).bind fun v=>T v β s k) :=
 (IsLoc.obind (evalParts E ⟨sl,fun _ => .free⟩ x) h).of_eq fun β s k=>by rw [evalParts_st E sl s (fun _ => .free) x]
theorem loc_doOp (rts:Nat→Option (List Nat)) (o:Oper):IsLoc (fun β s k=>doOp E rts ⟨sl,s⟩ o k):=by
  obtain ⟨dst,op,type,pos,after,guard⟩:=o
  cases op<;>simp only [doOp]<;>try exact IsLoc.none
  case move x=>exact IsLoc.ev E sl x fun v=>IsLoc.ret v
  case assign x=>exact IsLoc.ev E sl x fun v=>IsLoc.ret v
  case pick c a b =>
    refine IsLoc.ev E sl c fun v=> ?_
    cases v<;>simp only [AV.onBool]<;>try exact IsLoc.none
    rename_i t
    cases t
    · exact IsLoc.ev E sl b fun v=>IsLoc.ret v
    · exact IsLoc.ev E sl a fun v=>IsLoc.ret v
  case alloc e =>
    refine IsLoc.obind _ fun i=> ?_
    cases dst with
    | none=>exact IsLoc.none
    | some t =>
      simp only
      split
      · exact IsLoc.obind _ fun l=>loc_newBlk sl _ _ _
      · exact loc_newBlk sl _ _ _
  case box e x =>
    refine IsLoc.obind _ fun i=>IsLoc.ev E sl x fun v=> ?_
    cases dst with
    | none=>exact IsLoc.none
    | some t=>exact (loc_newBlk sl _ _ _).cond _
  case build t ps=>exact IsLoc.obind _ fun i=>IsLoc.evP E sl _ fun ps=>loc_doBuild E sl i ps
  case buildSlice t n ps =>
    refine IsLoc.obind _ fun i=>IsLoc.evP E sl _ fun ps=> ?_
    cases viewOf E dst
    · exact loc_doBuildSlice E sl i n ps
    · cases dst with
      | none=>exact loc_doBuildSlice E sl i n ps
      | some d=>exact loc_doBuildOwn E sl _ i n ps
  case makeSlice t l c =>
    refine IsLoc.obind _ fun i=>IsLoc.ev E sl l fun n=>IsLoc.ev E sl c fun m=> ?_
    cases dst with
    | none=>exact IsLoc.none
    | some d=>exact loc_doMake sl _ _ _ _
  case load t a=>exact IsLoc.obind _ fun i=>IsLoc.ev E sl a fun v=>loc_doLoad E sl i v
  case store t a x=>exact IsLoc.obind _ fun i=>IsLoc.ev E sl a fun p=>IsLoc.ev E sl x fun v=>loc_doStore E sl i p v
  case nilCheck x =>
    refine IsLoc.ev E sl x fun v=> ?_
    cases v<;>first | exact IsLoc.ret _ | exact IsLoc.none
  case binOp op t x y z=>exact IsLoc.obind _ fun i=>IsLoc.ev E sl x fun a=>IsLoc.ev E sl y fun b=>IsLoc.obind _ fun v=>(IsLoc.ret v.2).chk _
  case unOp op t x=>exact IsLoc.ev E sl x fun a=>IsLoc.obind _ fun v=>IsLoc.ret v
  case convert s d x=>exact IsLoc.obind _ fun si=>IsLoc.obind _ fun di=>IsLoc.ev E sl x fun v=>loc_doConvert sl si di v
  case slice t x lo hi mx =>
    refine IsLoc.obind _ fun i=>IsLoc.ev E sl x fun v=> ?_
    obtain ⟨f,hf⟩:∃ f:Operand→Option AV,∀ s x,evalO E ⟨sl,s⟩ x=f x:=⟨_,fun s x=>evalO_st E sl s (fun _ => .free) x⟩
    have hvw:∀ (a b:Option AV),IsLoc (fun β s k=>match viewOf E dst with | true=>doView ⟨sl,s⟩ i v a b k | false=>doSlice E ⟨sl,s⟩ i v a b none k):=fun a b=>by
      cases viewOf E dst
      · exact loc_doSlice E sl _ _ _ _ _
      · exact loc_doView sl _ _ _ _
    rcases lo with _ | lo<;>rcases hi with _ | hi<;>rcases mx with _ | mx<;>simp only [Option.map_some,Option.map_none,hf]
    · exact hvw _ _
    · cases f mx<;>exact IsLoc.none
    · cases f hi<;>first | exact IsLoc.none | exact hvw _ _
    · cases f hi<;>cases f mx<;>first | exact IsLoc.none | exact loc_doSlice3 E sl _ _ _ _ _
    · cases f lo<;>first | exact IsLoc.none | exact hvw _ _
    · cases f lo<;>cases f mx<;>exact IsLoc.none
    · cases f lo<;>cases f hi<;>first | exact IsLoc.none | exact hvw _ _
    · cases f lo<;>cases f hi<;>cases f mx<;>first | exact IsLoc.none | exact loc_doSlice3 E sl _ _ _ _ _
  case fieldAddr t x f=>exact IsLoc.obind _ fun i=>IsLoc.obind _ fun p=>IsLoc.ev E sl x fun v=>loc_doFieldAddr sl _ v
  case field t x f =>
    refine IsLoc.obind _ fun i=>IsLoc.obind _ fun p=>IsLoc.obind _ fun fi=>IsLoc.ev E sl x fun v=> ?_
    cases v<;>simp only [AV.onAgg]<;>try exact IsLoc.none
    exact IsLoc.pureO (f:=id) loadCells_det
  case indexAddr t x ix=>exact IsLoc.obind _ fun i=>IsLoc.ev E sl x fun v=>IsLoc.ev E sl ix fun n=>loc_doIndexAddr E sl i v n
  case index t x ix=>exact IsLoc.obind _ fun i=>IsLoc.ev E sl x fun v=>IsLoc.ev E sl ix fun n=>loc_doIndex sl i v n
  case makeFunc fn fs cs =>
    split
    · exact IsLoc.evA E sl _ fun a=>IsLoc.evA E sl _ fun b=>IsLoc.obind _ fun pa=>IsLoc.obind _ fun pb=>IsLoc.ret _
    · exact IsLoc.none
  case extract x j =>
    refine IsLoc.ev E sl x fun v=> ?_
    cases v<;>simp only [AV.onTup]<;>try exact IsLoc.none
    split<;>first | exact IsLoc.ret _ | exact IsLoc.none
  case call c =>
    split
    · refine IsLoc.evA E sl _ fun vs=> ?_
      split
      · exact IsLoc.obind _ fun i=>loc_doLen sl i _
      · exact IsLoc.none
    · refine IsLoc.evA E sl _ fun vs=> ?_
      split
      · refine IsLoc.obind _ fun i=>IsLoc.obind _ fun xi=> ?_
        split<;>first | exact loc_doAppend E sl _ _ _ _ | exact IsLoc.none
      · exact IsLoc.none
    · exact IsLoc.evA E sl _ fun vs=>IsLoc.obind _ fun v=>IsLoc.ret v
    · exact IsLoc.evA E sl _ fun vs=>IsLoc.obind _ fun v=>IsLoc.ret v
    · rename_i f _
      refine IsLoc.evA E sl _ fun vs=> ?_
      cases dst with
      | none=>exact IsLoc.none
      | some t =>
        simp only
        cases E.inl f with
        | some run=>exact run.loc _ _
        | none=>exact loc_doCall E sl rts _ _ _ _
    · refine IsLoc.ev E sl _ fun v=> ?_
      cases v<;>simp only [AV.onClo]<;>try exact IsLoc.none
      all_goals
        refine IsLoc.evA E sl _ fun vs=> ?_
        rcases dst with _ | t
        · exact IsLoc.none
        · simp only
          split
          · exact InlR.loc _ _ _
          · first
            | exact loc_doCall E sl rts _ _ _ _
            | split
              · exact loc_doCall E sl rts _ _ _ _
              · exact IsLoc.none
    · exact IsLoc.none
end
end Go.Abs
