/- Cuts, appends, literals. -/
import Derived.Test.YtmipfdjcnkljnaaAbsOps5
open Bool renaming and_eq_true→Zz
open Nat renaming le_of_ble_eq_true→Zy,eq_of_beq_eq_true→Zx,add_mul→Zw,le_refl→Zu
open List renaming eq_nil_of_length_eq_zero→Zv,length_append→Zq
namespace Go.Abs
set_option linter.unusedVariables false
section
variable {P:Program} {B:Nat} {M:Nat→Prop} {w0:World} {p0:Prot} {w:World} {p:Prot} {g:Nat→Value}
theorem bound_inv {u:Nat→Prop} {lo:Option AV} {xl:Option Value} {d:Nat} (hl:(lo=none∧xl=none)∨∃ a x,lo=some a∧xl=some x∧RepV w p g u x a) {n:Int} (h:bound lo d=some n) :
  (xl=none∧n=d)∨∃ k,xl=some (.int k n):=by
 rcases hl with ⟨rfl,rfl⟩ | ⟨a,x,rfl,rfl,hr⟩
 ·simp [bound] at h;exact .inl ⟨rfl,h.symm⟩
 ·obtain ⟨k,rfl⟩:=idx_inv hr h
  exact .inr ⟨k,rfl⟩
theorem run_bounds {isS:Bool} {len cap:Nat} {xl xh:Option Value} {a b:Int} (hlo:(xl=none∧a=(0:Nat))∨∃ k,xl=some (.int k a)) (hhi:(xh=none∧b=(len:Int))∨∃ k,xh=some (.int k b))
  (h0:0≤a) (hab:a≤b) (hb:b≤len) (hc:len≤cap):(Instr.sliceBounds isS len cap xl xh none).run P w = .ok (a.toNat,b.toNat,cap) w:=by
 have e1:0≤b∧b≤(cap:Int):=⟨by omega,by omega⟩
 have e2:0≤a∧a≤((b.toNat:Nat):Int):=⟨h0,by omega⟩
 rcases hhi with ⟨rfl,rfl⟩ | ⟨kb,rfl⟩
 ·rcases hlo with ⟨rfl,rfl⟩ | ⟨ka,rfl⟩
  ·simp [Instr.sliceBounds]
  ·have e3:0≤a∧a≤(len:Int):=⟨h0,hab⟩
   simp [Instr.sliceBounds,Instr.sliceBound,asIntOf,e3]
 ·rcases hlo with ⟨rfl,rfl⟩ | ⟨ka,rfl⟩
  ·simp [Instr.sliceBounds,Instr.sliceBound,asIntOf,e1]
  ·simp [Instr.sliceBounds,Instr.sliceBound,asIntOf,e1,e2]
   intro hh
   omega
theorem cut_get {β:Type} (l:List β) (a b i:Nat):((l.take b).drop a)[i]? = if a+i<b then l[a+i]? else none:=by
 rw [List.getElem?_drop,List.getElem?_take]
theorem cut_length {β:Type} (l:List β) {a b:Nat} (h:b≤l.length):((l.take b).drop a).length=b-a:=by
 rw [List.length_drop,List.length_take];omega
theorem cut_bs {x:Value} {l:List UInt8} (h:RepI w p x (.bs l)) {a b:Nat} (hab:a≤b) (hb:b≤l.length):∃ ad len cap,x = .slice ad len cap∧len=l.length∧len≤cap ∧
  RepI w p (.slice (if cap=a then ad else ad.map (·.add (a*1))) (b-a) (cap-a)) (.bs ((l.take b).drop a)):=by
 cases h with
 | bs β off hl hc ha hcell =>
  rename_i ad len cap
  refine ⟨ad,len,cap,rfl,hl.symm,hc,?_⟩
  refine .bs β (off+a) (cut_length l hb) (by omega) ?_ fun i c hi=> ?_
  ·by_cases h0:b-a=0
   ·exact .inl h0
   ·right
    rw [if_neg (by omega)]
    rcases ha with ha | rfl
    ·omega
    ·simp [addr_add]
  ·rw [cut_get] at hi
   split at hi
   ·have:=hcell _ _ hi
    rw [Nat.add_assoc]
    exact this
   ·cases hi
theorem flat_drop {sz:Nat} {els:List AV} (hs:∀ x∈els,x.cells.length=sz):∀ (n:Nat),(els.drop n).flatMap AV.cells=(els.flatMap AV.cells).drop (n*sz):=by
 induction els with
 | nil=>simp
 | cons y r ih =>
  intro n
  cases n with
  | zero=>simp
  | succ n =>
   have hy:=hs y (by simp)
   have e1:y.cells.drop ((n+1)*sz)=[]:=List.drop_of_length_le (by rw [hy,Zw];omega)
   rw [List.drop_succ_cons,ih (fun z hz=>hs z (by simp [hz])),List.flatMap_cons,List.drop_append,e1]
   rw [show (n+1)*sz-y.cells.length=n*sz by rw [hy,Zw];omega]
   simp
theorem flat_take {sz:Nat} {els:List AV} (hs:∀ x∈els,x.cells.length=sz):∀ (n:Nat),(els.take n).flatMap AV.cells=(els.flatMap AV.cells).take (n*sz):=by
 induction els with
 | nil=>simp
 | cons y r ih =>
  intro n
  cases n with
  | zero=>simp
  | succ n =>
   have hy:=hs y (by simp)
   have e1:y.cells.take ((n+1)*sz)=y.cells:=List.take_of_length_le (by rw [hy,Zw];omega)
   rw [List.take_succ_cons,List.flatMap_cons,ih (fun z hz=>hs z (by simp [hz])),List.flatMap_cons,List.take_append,e1]
   rw [show (n+1)*sz-y.cells.length=n*sz by rw [hy,Zw];omega]
theorem cut_sl {x:Value} {sz:Nat} {l:List AV} (h:RepI w p x (.sl sz l)) {a b:Nat} (hab:a≤b) (hb:b≤l.length):∃ ad len cap,x = .slice ad len cap∧len=l.length∧len≤cap ∧
  RepI w p (.slice (if cap=a then ad else ad.map (·.add (a*sz))) (b-a) (cap-a)) (.sl sz ((l.take b).drop a)):=by
 cases h with
 | sl β off vs hl hc hsz ha hcell hr =>
  rename_i ad len cap
  refine ⟨ad,len,cap,rfl,hl.symm,hc,?_⟩
  have hst:∀ x∈l.take b,x.cells.length=sz:=fun x hx=>hsz x (List.mem_of_mem_take hx)
  have hget:∀ j c,(((l.take b).drop a).flatMap AV.cells)[j]? = some c→(l.flatMap AV.cells)[a*sz+j]? = some c:=fun j c hj=>by
   rw [flat_drop hst,flat_take hsz,List.getElem?_drop,List.getElem?_take] at hj
   split at hj
   ·exact hj
   ·cases hj
  refine .sl β (off+a*sz) (fun j=>vs (a*sz+j)) (cut_length l hb) (by omega) (fun x hx=>hst x (List.mem_of_mem_drop hx)) ?_ (fun j c hj=> ?_) (fun j c hj=>hr _ c (hget j c hj))
  ·by_cases h0:b-a=0
   ·exact .inl h0
   ·right
    rw [if_neg (by omega)]
    rcases ha with ha | rfl
    ·omega
    ·simp [addr_add]
  ·have:=hcell _ _ (hget j c hj)
   rw [Nat.add_assoc]
   exact this
def OptRep (w:World) (p:Prot) (g:Nat→Value) (u:Nat→Prop) (xl:Option Value) (lo:Option AV):Prop:=(lo=none∧xl=none)∨∃ a x,lo=some a∧xl=some x∧RepV w p g u x a
theorem run_bounds3 {isS:Bool} {len cap:Nat} {xl:Option Value} {a b c:Int} {kb kc:IntKind} (hlo:(xl=none∧a=(0:Nat))∨∃ k,xl=some (.int k a))
  (h0:0≤a) (hab:a≤b) (hbc:b≤c) (hb:c≤cap):(Instr.sliceBounds isS len cap xl (some (.int kb b)) (some (.int kc c))).run P w = .ok (a.toNat,b.toNat,c.toNat) w:=by
 have e1:0≤c∧c≤(cap:Int):=⟨by omega,by omega⟩
 have e2:0≤b∧b≤((c.toNat:Nat):Int):=⟨by omega,by omega⟩
 have e3:0≤a∧a≤((b.toNat:Nat):Int):=⟨h0,by omega⟩
 have e4:0≤b∧b≤max c 0:=⟨by omega,by omega⟩
 have e5:0≤a∧a≤max b 0:=⟨by omega,by omega⟩
 rcases hlo with ⟨rfl,rfl⟩ | ⟨ka,rfl⟩
 ·simp [Instr.sliceBounds,Instr.sliceBound,asIntOf,e1,e2,e4]
 ·simp [Instr.sliceBounds,Instr.sliceBound,asIntOf,e1,e2,e3,e4,e5]
theorem sim_slice3 {α:Type} {E:Env} (hty:∀ t i,E.ty t=some i→mkTI P t=some i) {fr:Fr} {t:Nat} {i:TI} (hi:mkTI P t=some i) (h:SInv B M w0 p0 w p g fr.st) {x xh xm:Value} {v hi' m:AV} {xl:Option Value} {lo:Option AV} (hx:RepV w p g (used fr.st) x v)
  (hlo:OptRep w p g (used fr.st) xl lo) (hhi:RepV w p g (used fr.st) xh hi') (hm':RepV w p g (used fr.st) xm m) {k:Ret α} {r:α} (hk:doSlice3 E fr i v lo hi' m k=some r) :
  ∃ v' st' fp,k v' st' fp=some r∧Good B M w0 p0 w p g fr.st v' st' ((Instr.sliceAt t x xl (some xh) (some xm)).run P w):=by
 obtain ⟨info,z,a1,a2,a3,a4,a5,a6,a7,a8,a9,_⟩:=mkTI_info hi
 unfold doSlice3 at hk
 split at hk
 ·rename_i e hkd
  rw [hkd] at a8
  obtain ⟨hu,hb8⟩:=kind_slice a8
  obtain ⟨hue,ei,he1,he2,he3,he4⟩:=isU8_iff hb8.symm
  obtain ⟨v1,st1,f1,p1,hk1,hs1,hm1,hr1⟩:=sim_out1 h hx hk
  obtain ⟨l,rfl,hk2⟩:=onBs_inv hk1
  split at hk2
  ·rename_i a b c ha hb hcc
   obtain ⟨hc,hk3⟩:=chk_inv hk2
   simp only [Zz,decide_eq_true_eq] at hc
   obtain ⟨⟨⟨h0,hab⟩,hbc⟩,hcl⟩:=hc
   have hb1:=bound_inv hlo ha
   obtain ⟨kb,rfl⟩:=idx_inv hhi hb
   obtain ⟨kc,rfl⟩:=idx_inv hm' hcc
   cases hr1 with
   | bs β off hl hcap ha' hcell =>
    rename_i ad len cap
    have hrun:=run_bounds3 (P:=P) (w:=w) (isS:=true) (len:=len) (cap:=cap) (kb:=kb) (kc:=kc) hb1 h0 hab hbc (by omega)
    refine ⟨_,_,_,hk3,.slice (if c.toNat=a.toNat then ad else ad.map (·.add (a.toNat*1))) (b.toNat-a.toNat) (c.toNat-a.toNat),w,p1,g,?_,hs1,hm1,RepI.v ?_⟩
    ·simp [Instr.sliceAt,Instr.slice,run_underlying hu,hrun,run_sizeOf he1,he2]
    ·refine .bs β (off+a.toNat) (cut_length l (by omega)) (by omega) ?_ fun i c hi=> ?_
     ·by_cases hz:b.toNat-a.toNat=0
      ·exact .inl hz
      ·right
       rw [if_neg (by omega)]
       rcases ha' with ha' | rfl
       ·omega
       ·simp [addr_add]
     ·rw [cut_get] at hi
      split at hi
      ·have:=hcell _ _ hi
       rw [Nat.add_assoc]
       exact this
      ·cases hi
  ·cases hk2
 ·rename_i e hkd
  rw [hkd] at a8
  obtain ⟨hu,hb8⟩:=kind_slice a8
  split at hk
  ·rename_i ei b c hei hb hcc
   obtain ⟨info',z',b1,b2,b3,b4,b5,b6,b7,b8,b9,_⟩:=mkTI_info (hty _ _ hei)
   obtain ⟨hc,hk1⟩:=chk_inv hk
   simp only [Zz,beq_iff_eq] at hc
   obtain ⟨rfl,rfl⟩:=hc
   obtain ⟨kb,rfl⟩:=idx_inv hhi hb
   obtain ⟨kc,rfl⟩:=idx_inv hm' hcc
   have hxl:xl=none:=by
    rcases hlo with ⟨_,h⟩ | ⟨_,_,h,_⟩
    ·exact h
    ·cases h
   subst hxl
   have fin:(∃ a len cap,x = .slice a len cap)→Good B M w0 p0 w p g fr.st .nils fr.st ((Instr.sliceAt t x none (some (.int kb 0)) (some (.int kc 0))).run P w):=by
    rintro ⟨a,len,cap,rfl⟩
    have hrun:=run_bounds3 (P:=P) (w:=w) (isS:=true) (len:=len) (cap:=cap) (a:=(0:Nat)) (b:=0) (c:=0) (kb:=kb) (kc:=kc) (.inl ⟨rfl,rfl⟩) (by simp) (by simp) (by simp) (by simp)
    refine ⟨.slice a 0 0,w,p,g,?_,h,Mono.refl,RepI.v .nils⟩
    simp [Instr.sliceAt,Instr.slice,run_underlying hu,hrun,run_sizeOf b1]
   split at hk1
   ·refine ⟨_,_,_,hk1,fin ?_⟩
    have hi:=hx.sl
    generalize x=y at hi
    cases hi;exact ⟨_,_,_,rfl⟩
   ·refine ⟨_,_,_,hk1,fin ?_⟩
    obtain ⟨a,rfl⟩:=hx.nils
    exact ⟨_,_,_,rfl⟩
   ·refine ⟨_,_,_,hk1,fin ?_⟩
    obtain ⟨_,hxg,a,l,c,hs⟩:=hx.row
    exact ⟨_,_,_,hxg.trans hs⟩
   ·cases hk1
  ·cases hk
 ·cases hk
theorem sim_view {α:Type} {fr:Fr} {t:Nat} {i:TI} (hi:mkTI P t=some i) (h:SInv B M w0 p0 w p g fr.st) {x:Value} {v:AV} {xl xh:Option Value} {lo hi':Option AV} (hx:RepV w p g (used fr.st) x v)
  (hlo:OptRep w p g (used fr.st) xl lo) (hhi:OptRep w p g (used fr.st) xh hi') {k:Ret α} {r:α} (hk:doView fr i v lo hi' k=some r) :
  ∃ v' st' fp,k v' st' fp=some r∧Good B M w0 p0 w p g fr.st v' st' ((Instr.sliceAt t x xl xh none).run P w):=by
 obtain ⟨info,z,a1,a2,a3,a4,a5,a6,a7,a8,a9,_⟩:=mkTI_info hi
 unfold doView at hk
 split at hk
 ·rename_i e rr hkd
  rw [hkd] at a8
  obtain ⟨hu,hb8⟩:=kind_slice a8
  obtain ⟨hue,ei,he1,he2,he3,he4⟩:=isU8_iff hb8.symm
  obtain ⟨hur,rfl,hgs⟩:=hx.row
  have hbk:=h.blk rr
  split at hk
  ·rename_i e' l pub hst
   rw [hst] at hbk
   obtain ⟨⟨hlen,hrow⟩,hpp⟩:=hbk
   have key:0<l.length→∃ β cap,g rr = .slice (some ⟨β,0,none⟩) l.length cap∧l.length≤cap:=fun h0=>by
    rcases hrow with ⟨hn,_⟩ | ⟨β,cap,cur,hv,_,_,_,hnc,_⟩
    ·omega
    ·exact ⟨β,cap,hv,hnc⟩
   split at hk
   ·rename_i hv'
    split at hk
    ·rename_i b hb
     obtain ⟨hc,hk3⟩:=chk_inv hk
     simp only [Zz,decide_eq_true_eq] at hc
     obtain ⟨⟨⟨h0,hbl⟩,hpos⟩,_⟩:=hc
     obtain ⟨β,cap,hg,hnc⟩:=key (Zy hpos)
     have hb1:=bound_inv (d:=0) (n:=((0:Nat):Int)) hlo rfl
     have hb2:=bound_inv (d:=l.length) hhi hb
     have hrun:=run_bounds (P:=P) (w:=w) (isS:=true) (len:=l.length) (cap:=cap) hb1 hb2 (by omega) (by omega) hbl hnc
     refine ⟨_,_,_,hk3,Good.same h (v' := .slice (some ⟨β,0,none⟩) b.toNat cap) ?_ (RepC.v (.pre hur hg (by omega)))⟩
     rw [hg]
     have hrun':(Instr.sliceBounds true l.length cap xl xh none).run P w = .ok (0,b.toNat,cap) w:=by simpa using hrun
     have he:(if cap=0 then some (⟨β,0,none⟩:Addr) else some (Addr.add ⟨β,0,none⟩ 0))=some ⟨β,0,none⟩:=by split<;>simp [addr_add]
     simp [Instr.sliceAt,Instr.slice,run_underlying hu,hrun',run_sizeOf he1,he2,he]
    ·cases hk
   ·rename_i av
    split at hk
    ·rename_i a ha
     obtain ⟨hc,hk3⟩:=chk_inv hk
     simp only [Zz,decide_eq_true_eq] at hc
     obtain ⟨⟨⟨h0,hal⟩,hpos⟩,_⟩:=hc
     obtain ⟨β,cap,hg,hnc⟩:=key (Zy hpos)
     have hb1:=bound_inv (d:=0) hlo ha
     have hb2:=bound_inv (d:=l.length) (n:=(l.length:Int)) hhi rfl
     have hrun:=run_bounds (P:=P) (w:=w) (isS:=true) (len:=l.length) (cap:=cap) hb1 hb2 h0 hal (Int.le_refl _) hnc
     refine ⟨_,_,_,hk3,Good.same h (v' := .slice (if cap=a.toNat then some ⟨β,0,none⟩ else some ⟨β,a.toNat,none⟩) (l.length-a.toNat) (cap-a.toNat)) ?_ (RepC.v (.suf hur hg (by omega) ?_))⟩
     ·rw [hg]
      have hrun':(Instr.sliceBounds true l.length cap xl xh none).run P w = .ok (a.toNat,l.length,cap) w:=by simpa using hrun
      simp [Instr.sliceAt,Instr.slice,run_underlying hu,hrun',run_sizeOf he1,he2,addr_add]
     ·by_cases e:cap=a.toNat
      ·exact .inl (by omega)
      ·rw [if_neg e];exact .inr rfl
    ·cases hk
   ·cases hk
  ·cases hk
 ·cases hk
theorem sim_slice {α:Type} {E:Env} (hty:∀ t i,E.ty t=some i→mkTI P t=some i) {fr:Fr} {t:Nat} {i:TI} (hi:mkTI P t=some i) (h:SInv B M w0 p0 w p g fr.st) {x:Value} {v:AV} {xl xh:Option Value} {lo hi':Option AV} (hx:RepV w p g (used fr.st) x v)
  (hlo:OptRep w p g (used fr.st) xl lo) (hhi:OptRep w p g (used fr.st) xh hi') {k:Ret α} {r:α} (hk:doSlice E fr i v lo hi' none k=some r) :
  ∃ v' st' fp,k v' st' fp=some r∧Good B M w0 p0 w p g fr.st v' st' ((Instr.sliceAt t x xl xh none).run P w):=by
 obtain ⟨info,z,a1,a2,a3,a4,a5,a6,a7,a8,a9,_⟩:=mkTI_info hi
 unfold doSlice at hk
 simp only at hk
 split at hk
 ·-- a string
  rename_i hkd
  rw [hkd] at a8
  have hu:=kind_str a8
  obtain ⟨l,rfl,hk2⟩:=onStr_inv hk
  obtain ⟨s,rfl,rfl⟩:=hx.str
  split at hk2
  ·rename_i a b ha hb
   obtain ⟨hc,hk3⟩:=chk_inv hk2
   simp only [Zz,decide_eq_true_eq] at hc
   obtain ⟨⟨h0,hab⟩,hbl⟩:=hc
   have hbl':b≤(s.size:Int):=by simpa using hbl
   have hb1:=bound_inv hlo ha
   have hb2:=bound_inv hhi hb
   have hb2':(xh=none∧b=(s.size:Int))∨∃ k,xh=some (.int k b):=by simpa using hb2
   have hrun:=run_bounds (P:=P) (w:=w) (isS:=false) (cap:=s.size) hb1 hb2' h0 hab hbl' (Zu _)
   refine ⟨_,_,_,hk3,Good.same h (v' := .string (s.extract a.toNat b.toNat)) ?_ (RepI.v (.str ?_))⟩
   ·simp [Instr.sliceAt,Instr.slice,run_underlying hu,hrun]
   ·simp [ByteArray.data_extract,Array.toList_extract,List.extract_eq_take_drop]
    rw [List.drop_take]
  ·cases hk2
 ·-- bytes
  rename_i e hkd
  rw [hkd] at a8
  obtain ⟨hu,hb8⟩:=kind_slice a8
  obtain ⟨hue,ei,he1,he2,he3,he4⟩:=isU8_iff hb8.symm
  obtain ⟨v1,st1,f1,p1,hk1,hs1,hm1,hr1⟩:=sim_out1 h hx hk
  obtain ⟨l,rfl,hk2⟩:=onBs_inv hk1
  split at hk2
  ·rename_i a b ha hb
   obtain ⟨hc,hk3⟩:=chk_inv hk2
   simp only [Zz,decide_eq_true_eq] at hc
   obtain ⟨⟨h0,hab⟩,hbl⟩:=hc
   obtain ⟨ad,len,cap,rfl,hlen,hcap,hrep⟩:=cut_bs hr1 (a:=a.toNat) (b:=b.toNat) (by omega) (by omega)
   have hb1:=bound_inv hlo ha
   have hb2:=bound_inv hhi hb
   rw [← hlen] at hb2 hbl
   have hrun:=run_bounds (P:=P) (w:=w) (isS:=true) hb1 hb2 h0 hab hbl hcap
   refine ⟨_,_,_,hk3,_,w,p1,g,?_,hs1,hm1,RepI.v hrep⟩
   simp [Instr.sliceAt,Instr.slice,run_underlying hu,hrun,run_sizeOf he1,he2]
  ·cases hk2
 ·-- other elements
  rename_i e hkd
  rw [hkd] at a8
  obtain ⟨hu,hb8⟩:=kind_slice a8
  split at hk
  ·rename_i ei hei
   obtain ⟨info',z',b1,b2,b3,b4,b5,b6,b7,b8,b9,_⟩:=mkTI_info (hty _ _ hei)
   obtain ⟨v1,st1,f1,p1,hk1,hs1,hm1,hr1⟩:=sim_out1 h hx hk
   obtain ⟨l,rfl,hk2⟩:=onSl_inv hk1
   split at hk2
   ·rename_i a b ha hb
    obtain ⟨hc,hk3⟩:=chk_inv hk2
    simp only [Zz,decide_eq_true_eq] at hc
    obtain ⟨⟨h0,hab⟩,hbl⟩:=hc
    obtain ⟨ad,len,cap,rfl,hlen,hcap,hrep⟩:=cut_sl hr1 (a:=a.toNat) (b:=b.toNat) (by omega) (by omega)
    have hb1:=bound_inv hlo ha
    have hb2:=bound_inv hhi hb
    rw [← hlen] at hb2 hbl
    have hrun:=run_bounds (P:=P) (w:=w) (isS:=true) hb1 hb2 h0 hab hbl hcap
    refine ⟨_,_,_,hk3,_,w,p1,g,?_,hs1,hm1,RepI.v hrep⟩
    simp [Instr.sliceAt,Instr.slice,run_underlying hu,hrun,run_sizeOf b1,b2]
   ·cases hk2
  ·cases hk
 ·-- an array of bytes
  rename_i n e hkd
  rw [hkd] at a8
  obtain ⟨hu,hb8⟩:=kind_arr a8
  obtain ⟨hue,ei,he1,he2,he3,he4⟩:=isU8_iff hb8.symm
  split at hk
  ·rename_i b
   obtain ⟨hub,β,hg,rfl⟩:=hx.ptr
   have hbk:=h.blk b
   split at hk
   ·rename_i l pub hst
    rw [hst] at hbk
    obtain ⟨β',c,e',h1,h2,h3,h4,h5,h6⟩:=hbk
    have hbe:β'=β:=by rw [h1] at hg;cases hg;rfl
    subst hbe
    split at hk
    ·rename_i a c' ha hb
     obtain ⟨hc,hk3⟩:=chk_inv hk
     simp only [Zz,decide_eq_true_eq] at hc
     obtain ⟨⟨⟨h0,hab⟩,hbl⟩,hln⟩:=hc
     have hln':=Zx hln
     subst hln'
     have hb1:=bound_inv hlo ha
     have hb2:=bound_inv hhi hb
     have hrun:=run_bounds (P:=P) (w:=w) (isS:=false) (len:=l.length) (cap:=l.length) hb1 hb2 h0 hab hbl (Zu _)
     have hvb:vblk (g b)=some β':=by rw [h1];rfl
     obtain ⟨hs,hm⟩:=h.relabel (k:=b) (b := .barr l true) (p':=raise p (vblk (g b)) l.length) (by rw [hst];trivial) trivial (fun β hv=>raise_ne hv)
      (fun β hv=>by rw [raise_same hv];rw [hvb] at hv;cases hv;exact h5) (fun β hv hlt=>by rw [hvb] at hv;cases hv;omega)
      (fun hm=>⟨β',c,e',h1,h2,h3,h4,by rw [raise_same hvb];exact Zu _,fun e=>by cases e⟩)
     have hbs:RepI w (raise p (vblk (g b)) l.length) (.slice (some ⟨β',0,none⟩) l.length l.length) (.bs l) := .bs β' 0 rfl (Zu _) (.inr rfl) fun i b hi=>⟨by
      rw [raise_same hvb]
      have:=(List.getElem?_eq_some_iff.1 hi).1
      omega,by
      rw [cell_heap h3]
      have h1':(l.map u8v)[i]? = some (u8v b):=by simp [hi]
      rw [← h4] at h1'
      simpa using h1'⟩
     obtain ⟨ad,len,cap,heq,hlen,hcap,hrep⟩:=cut_bs hbs (a:=a.toNat) (b:=c'.toNat) (by omega) (by omega)
     cases heq
     refine ⟨_,_,_,hk3,_,w,_,g,?_,hs,hm,RepI.v hrep⟩
     simp [Instr.sliceAt,run_underlying hu,hrun,run_sizeOf he1,he2,Instr.sureAddr]
     split<;>rfl
    ·cases hk
   ·cases hk
  ·cases hk
 ·cases hk
end
end Go.Abs
/- append. -/
namespace Go.Abs
set_option linter.unusedVariables false
section
variable {P:Program} {B:Nat} {M:Nat→Prop} {w0:World} {p0:Prot} {w:World} {p:Prot} {g:Nat→Value}
structure Grew (w w':World) (o:Option Nat) (n:Nat):Prop where
 os:w'.os=w.os
 tape:w'.tape=w.tape
 output:w'.output=w.output
 size:w.heap.size≤w'.heap.size
 block:∀ β,β<w.heap.size→o≠some β→w'.heap[β]? = w.heap[β]?
 front:∀ β i,o=some β→i<n→w'.cell? ⟨β,i,none⟩=w.cell? ⟨β,i,none⟩
theorem run_append_new {t tx ty e:TypeId} {info:TypeInfo} {z:Value} (ht:P.underlying t=some (.slice e)) (hi:P.info? e=some info) (hz:info.zero=some z) (hzs:z.cells.size=info.size)
  {x:Value} {m:Nat} {news:List Value} (src:Src P info.size tx x m news w) {a:Option Addr} {n cap:Nat} {xs:List Value} (hxs:xs.length=n*info.size)
  (hold:(Builtin.firstCells info.size n (.slice a n cap)).run P w.drew = .ok xs.toArray w.drew) (hcap:cap<n+m) (hroom:(n+m)*info.bytes≤140737488355328) (h63:n+m≤140737488355328) (hB:B≤w.heap.size) :
  ∃ v' w',(Builtin.append_ #[t,tx] ty #[.slice a n cap,x]).run P w = .ok v' w'∧RowOK w' B e info.size v' (n+m) (xs++news)∧vblk v'=some w.heap.size∧w.heap.size<w'.heap.size ∧
   ∀ (o:Option Nat) (q:Nat),(∀ β,o=some β→β<w.heap.size)→Grew w w' o q:=by
 have hrun:=run_append_grow_src (P:=P) w t tx ty e info z ht hi hz a n cap xs hold x m news src hcap (by omega) (growslice_fits hcap hroom)
 have hge:=grownCap_ge w (n+m) cap e
 have hcm:grownCap w (n+m) cap e≤maxLen:=grownCap_le_maxLen w (n+m) cap e (by simp only [maxLen];omega)
 refine ⟨_,_,hrun,⟨by rw [Zq,hxs,src.newsLen,Zw],.inr ⟨w.heap.size,_,_,rfl,by omega,hB,heap_push_new w.drew _,hge,hcm,?_,?_⟩⟩,?_,by simp,fun o q ho=>⟨rfl,rfl,rfl,by simp,fun β hβ _=>heap_push_old w.drew _ hβ,fun β i hβ hi=>cell_same (heap_push_old w.drew _ (ho β hβ)) i⟩⟩
 ·simp only [Array.size_append,List.size_toArray,size_zeroCells,hzs,Zq,hxs,src.newsLen,← Zw]
  congr 1
  omega
 ·simp only [Array.toList_append]
  rw [List.take_append_of_le_length (by simp [hxs,src.newsLen,← Zw]),List.take_of_length_le (by simp [hxs,src.newsLen,← Zw])]
 ·simp [vblk];omega
theorem run_append_row {t tx ty e:TypeId} {info:TypeInfo} {z:Value} (ht:P.underlying t=some (.slice e)) (hi:P.info? e=some info) (hz:info.zero=some z) (hzs:z.cells.size=info.size)
  {x:Value} {m:Nat} {news:List Value} (src:Src P info.size tx x m news w) {v:Value} {n:Nat} {xs:List Value} (hrow:RowOK w B e info.size v n xs)
  (hroom:(n+m)*info.bytes≤140737488355328) (h63:n+m≤140737488355328) (hB:B≤w.heap.size) :
  ∃ v' w',(Builtin.append_ #[t,tx] ty #[v,x]).run P w = .ok v' w'∧RowOK w' B e info.size v' (n+m) (xs++news)∧Grew w w' (vblk v) (n*info.size) ∧
   (∀ β,vblk v'=some β→vblk v=some β∨(w.heap.size≤β∧β<w'.heap.size)):=by
 obtain ⟨hlen,⟨rfl,a,rfl⟩ | ⟨β,cap,cur,rfl,h0,hBβ,hh,hnc,hcm,hcs,htake⟩⟩:=hrow
 ·have hx:xs=[]:=Zv (by simpa using hlen)
  subst hx
  have hnone:vblk (.slice a 0 0)=none:=by cases a<;>simp [vblk]
  by_cases hm:m=0
  ·subst hm
   have hn:news=[]:=Zv (by simpa using src.newsLen)
   subst hn
   refine ⟨.slice a 0 0,w,?_,⟨by simp,.inl ⟨rfl,a,rfl⟩⟩,⟨rfl,rfl,rfl,Zu _,fun _ _ _=>rfl,fun _ _ _ _=>rfl⟩,fun β hβ=>by rw [hnone] at hβ;cases hβ⟩
   rcases src.kind with ⟨e',hk⟩ | hk<;>cases a<;>simp [Builtin.append_,run_underlying ht,run_underlying hk,sizeOf,typeInfo,hi,src.len,src.cells,storeCells]
  ·have hold:(Builtin.firstCells info.size 0 (.slice a 0 0)).run P w.drew = .ok ([]:List Value).toArray w.drew:=by cases a<;>simp [Builtin.firstCells,Go.loadCells,loadCellsFrom]
   obtain ⟨v',w',hrun,hr,hv,hsz,hgr⟩:=run_append_new (P:=P) (ty:=ty) (B:=B) ht hi hz hzs src (n:=0) (cap:=0) (xs:=[]) (by simp) hold (by omega) hroom h63 hB
   refine ⟨v',w',hrun,hr,?_,fun β hβ=> ?_⟩
   ·rw [hnone];exact hgr none _ (fun _ h=>by cases h)
   ·rw [hv] at hβ;cases hβ;exact .inr ⟨Zu _,hsz⟩
 ·have hvb:vblk (.slice (some ⟨β,0,none⟩) n cap)=some β:=by simp [vblk];omega
  have hcells:∀ j u,xs[j]? = some u→w.cell? ⟨β,j,none⟩=some u:=fun j u hj=>by
   rw [← htake,List.getElem?_take] at hj
   split at hj
   ·rw [cell_heap hh];simpa using hj
   ·cases hj
  by_cases hr:n+m≤cap
  ·-- there is room
   have hnm:n*info.size+news.length=(n+m)*info.size:=by rw [src.newsLen,Zw]
   have hle:(n+m)*info.size≤cap*info.size:=Nat.mul_le_mul_right _ hr
   have hst:=run_storeCells_at (P:=P) β (n*info.size) e news 0 cur w hh (by rw [hcs];omega) src.one
   simp only [Nat.add_zero] at hst
   refine ⟨.slice (some ⟨β,0,none⟩) (n+m) cap,w.setRow β (cur.toList.take (n*info.size)++news++cur.toList.drop (n*info.size+news.length)).toArray,?_,⟨by rw [Zq,hlen,src.newsLen,Zw],.inr ⟨β,cap,_,rfl,h0,hBβ,setRow_heap w β cur _ e _ hh,hr,hcm,?_,?_⟩⟩,
    ⟨rfl,rfl,rfl,by simp,fun β' hβ' hne=>setRow_other w β β' _ (fun e=>hne (by rw [hvb,e])),fun β' i hβ' hi=> ?_⟩,fun β' hβ' => .inl (by rw [hvb];rw [← hβ'];simp [vblk];omega)⟩
   ·rcases src.kind with ⟨e',hk⟩ | hk<;>simp [Builtin.append_,run_underlying ht,run_underlying hk,sizeOf,typeInfo,hi,src.len,hr,src.cells,addr_add,hst]
   ·simp;omega
   ·have e1:cur.toList.take (n*info.size)=xs:=htake
    show ((cur.toList.take (n*info.size)++news++cur.toList.drop (n*info.size+news.length)).take ((n+m)*info.size))=_
    rw [e1,List.take_append_of_le_length (by simp [hlen];omega),List.take_of_length_le (by simp [hlen];omega)]
   ·rw [hvb] at hβ';cases hβ'
    rw [cell_heap (setRow_heap w β cur _ e _ hh),cell_heap hh]
    simp only [List.getElem?_toArray]
    rw [List.append_assoc,List.getElem?_append_left (by simp;omega),List.getElem?_take,if_pos hi]
    simp
  ·have hold:(Builtin.firstCells info.size n (.slice (some ⟨β,0,none⟩) n cap)).run P w.drew = .ok xs.toArray w.drew :=
    run_firstCells_some w.drew info.size n ⟨β,0,none⟩ n cap xs hlen (fun j u hj=>by rw [addr_add,Nat.zero_add];exact hcells j u hj)
   obtain ⟨v',w',hrun,hrow',hv,hsz,hgr⟩:=run_append_new (P:=P) (ty:=ty) (B:=B) ht hi hz hzs src (n:=n) (cap:=cap) hlen hold (by omega) hroom h63 hB
   refine ⟨v',w',hrun,hrow',?_,fun β' hβ'=> ?_⟩
   ·rw [hvb];exact hgr (some β) _ (fun β' h=>by cases h;exact heap_lt hh)
   ·rw [hv] at hβ';cases hβ';exact .inr ⟨Zu _,hsz⟩
theorem src_bytes {tx:TypeId} (hk:(∃ e',P.underlying tx=some (.slice e'))∨P.underlying tx=some .string) {x:Value} {l:List UInt8} {a:Option Addr} {len cap:Nat} (hx:x = .slice a len cap) (hl:l.length=len)
  (hc:len=0∨∃ β off,a=some ⟨β,off,none⟩∧∀ i b,l[i]? = some b→w.cell? ⟨β,off+i,none⟩=some (u8v b)):Src P 1 tx x l.length (l.map u8v) w:=by
 subst hx
 subst hl
 have hone:∀ u∈l.map u8v,u.oneCell'=true:=fun u hu=>by obtain ⟨_,_,rfl⟩:=List.mem_map.1 hu;rfl
 cases a with
 | none =>
  have hnil:l=[]:=by
   rcases hc with hc | ⟨β,off,ha,_⟩
   ·exact Zv hc
   ·cases ha
  subst hnil
  exact ⟨hk,fun _=>rfl,run_firstCells_none w 1 0 0 cap,run_firstCells_none w.drew 1 0 0 cap,by simp,hone⟩
 | some a =>
  have hnews:∀ j u,(l.map u8v)[j]? = some u→w.cell? (a.add j)=some u:=fun j u hj=>by
   rw [List.getElem?_map] at hj
   cases hb:l[j]? with
   | none=>simp [hb] at hj
   | some b =>
    simp [hb] at hj
    subst hj
    rcases hc with hc | ⟨β,off,ha,hcell⟩
    ·have:=(List.getElem?_eq_some_iff.1 hb).1;omega
    ·cases ha;rw [addr_add];exact hcell j b hb
  exact ⟨hk,fun _=>rfl,run_firstCells_some w 1 l.length a l.length cap _ (by simp) hnews,run_firstCells_some w.drew 1 l.length a l.length cap _ (by simp) (by simpa using hnews),by simp,hone⟩
theorem src_string {tx:TypeId} (hk:(∃ e',P.underlying tx=some (.slice e'))∨P.underlying tx=some .string) (s:ByteArray):Src P 1 tx (.string s) s.data.toList.length (s.data.toList.map u8v) w:=by
 have hl:s.data.toList.length=s.size:=by simp
 refine ⟨hk,fun _=> ?_,?_,?_,by simp,fun u hu=>by obtain ⟨_,_,rfl⟩:=List.mem_map.1 hu;rfl⟩
 ·rw [hl];rfl
 ·rw [hl];exact firstCells_string s w
 ·rw [hl];exact firstCells_string s w.drew
theorem elsOf_inv {α:Type} {st:Nat→Blk} (h:SInv B M w0 p0 w p g st) {sz:Nat} {x:Value} {v:AV} (hx:RepV w p g (used st) x v) {k:List AV→FP→Option α} {r:α} (hk:elsOf sz st v k=some r) :
  ∃ l fp a len cap vs,k l fp=some r∧x = .slice a len cap∧l.length=len∧(∀ y∈l,y.cells.length=sz)∧Cells (RepI w p) vs (l.flatMap AV.cells)∧(len=0∨∃ β off,a=some ⟨β,off,none⟩∧∀ i b,vs[i]? = some b→w.cell? ⟨β,off+i,none⟩=some b):=by
 unfold elsOf at hk
 split at hk
 ·rename_i z l
  obtain ⟨hz,hk2⟩:=bif_inv hk
  have hz':=Zx hz
  subst hz'
  have hr:=hx.sl
  cases hr with
  | sl β off vs hl hcap hsz ha hcell hr =>
   refine ⟨l,_,_,_,_,(List.range (l.flatMap AV.cells).length).map vs,hk2,rfl,hl,hsz,⟨by simp,fun i v c hv hc=> ?_⟩,?_⟩
   ·have hi:i<(l.flatMap AV.cells).length:=(List.getElem?_eq_some_iff.1 hc).1
    simp only [List.getElem?_map,List.getElem?_range hi,Option.map_some,Option.some.injEq] at hv
    subst hv
    exact hr i c hc
   ·rcases ha with ha | rfl
    ·exact .inl ha
    ·refine .inr ⟨β,off,rfl,fun i b hi=> ?_⟩
     have hi':i<(l.flatMap AV.cells).length:=by have:=(List.getElem?_eq_some_iff.1 hi).1;simpa using this
     simp only [List.getElem?_map,List.getElem?_range hi',Option.map_some,Option.some.injEq] at hi
     subst hi
     exact (hcell i _ (List.getElem?_eq_getElem hi')).2
 ·obtain ⟨a,rfl⟩:=hx.nils
  exact ⟨[],_,a,0,0,[],hk,rfl,rfl,(fun _ h=>by cases h),.nil,.inl rfl⟩
 ·rename_i rr
  obtain ⟨hur,rfl,a,l0,c0,hgs⟩:=hx.row
  have hb:=h.blk rr
  split at hk
  ·rename_i e z l pub hst
   rw [hst] at hb
   obtain ⟨hz,hk2⟩:=bif_inv hk
   have hz':=Zx hz
   subst hz'
   obtain ⟨hz0,hsz,vs,⟨hlen,⟨hn,a',hv⟩ | ⟨β',cap,cur,hv,h0,hB,hh,hnc,hcm,hcs,htake⟩⟩,hcells,hp⟩:=hb
   ·exact ⟨l,_,a',0,0,vs,hk2,hv,hn,hsz,hcells,.inl rfl⟩
   ·refine ⟨l,_,_,_,_,vs,hk2,hv,rfl,hsz,hcells,.inr ⟨β',0,rfl,fun i b hi=> ?_⟩⟩
    rw [← htake,List.getElem?_take] at hi
    split at hi
    ·rw [cell_heap hh];simpa using hi
    ·cases hi
  ·cases hk
 ·cases hk
theorem src_els {tx:TypeId} {sz:Nat} (hk:(∃ e',P.underlying tx=some (.slice e'))∨P.underlying tx=some .string) {x:Value} {n:Nat} {vs:List Value} {a:Option Addr} {len cap:Nat} (hx:x = .slice a len cap) (hl:n=len) (hvl:vs.length=n*sz)
  (hone:∀ u∈vs,u.oneCell'=true) (hc:len=0∨∃ β off,a=some ⟨β,off,none⟩∧∀ i b,vs[i]? = some b→w.cell? ⟨β,off+i,none⟩=some b):Src P sz tx x n vs w:=by
 subst hx
 subst hl
 cases a with
 | none =>
  have hn0:n=0:=by
   rcases hc with hc | ⟨β,off,ha,_⟩
   ·exact hc
   ·cases ha
  subst hn0
  have hnil:vs=[]:=Zv (by simpa using hvl)
  subst hnil
  exact ⟨hk,fun _=>rfl,run_firstCells_none w sz 0 0 cap,run_firstCells_none w.drew sz 0 0 cap,by simp,hone⟩
 | some a =>
  have hnews:∀ j u,vs[j]? = some u→w.cell? (a.add j)=some u:=fun j u hj=>by
   rcases hc with hc | ⟨β,off,ha,hcell⟩
   ·have:=(List.getElem?_eq_some_iff.1 hj).1
    rw [hvl,hc] at this
    omega
   ·cases ha;rw [addr_add];exact hcell j u hj
  exact ⟨hk,fun _=>rfl,run_firstCells_some w sz n a n cap _ hvl hnews,run_firstCells_some w.drew sz n a n cap _ hvl (by simpa using hnews),hvl,hone⟩
theorem SInv.moveRow {st:Nat→Blk} (h:SInv B M w0 p0 w p g st) {t:Nat} {r:Option Nat} {b:Blk} {v':Value} {w':World} {o:Option Nat} {n:Nat} (ht:st t = .free) (hb:b.live)
  (hr:∀ k,r=some k→(st k).live∧vblk (g k)=o) (hr0:r=none→o=none) (hgr:Grew w w' o n) (hpn:∀ β,o=some β→p β≤n) (hoB:∀ β,o=some β→B≤β)
  (hv:∀ β,vblk v'=some β→o=some β∨(w.heap.size≤β∧β<w'.heap.size))
  (st':Nat→Blk) (hst':st'=upd (match r with | some k=>upd st k .dead | none=>st) t b)
  (hB:Mono w p g (used st) w' p (upd g t v') (used st')→BlkOK w' p (upd g t v') (used st') B M t b) :
  SInv B M w0 p0 w' p (upd g t v') st'∧Mono w p g (used st) w' p (upd g t v') (used st'):=by
 have hbf:b ≠ .free:=fun e=>by rw [e] at hb;exact hb
 have hrt:∀ k,r=some k→k≠t:=fun k hk e=>by subst e;have:=(hr k hk).1;rw [ht] at this;exact this
 have hs1:∀ k,k≠t→r≠some k→st' k=st k:=fun k hk hkr=>by
  rw [hst',upd_ne _ _ hk]
  cases r with
  | none=>rfl
  | some k'=>exact upd_ne _ _ (fun e=>hkr (by rw [e]))
 have hst:st' t=b:=by rw [hst',upd_same]
 have hsr:∀ k,r=some k→st' k = .dead:=fun k hk=>by
  subst hk
  rw [hst',upd_ne _ _ (hrt k rfl)]
  exact upd_same _ _ _
 have hu:∀ k,used st k→used st' k:=fun k hk=>by
  unfold used at *
  by_cases e:k=t
  ·subst e;rw [hst];exact hbf
  ·by_cases e':r=some k
   ·rw [hsr k e'];simp
   ·rw [hs1 k e e'];exact hk
 have hg:∀ k,used st k→upd g t v' k=g k:=fun k hk=>upd_ne _ _ (fun e=>by subst e;exact hk ht)
 have hcell:∀ β i,i<p β→w'.cell? ⟨β,i,none⟩=w.cell? ⟨β,i,none⟩:=fun β i hi=>by
  rcases Nat.lt_or_ge β w.heap.size with hlt | hge
  ·by_cases e:o=some β
   ·exact hgr.front β i e (Nat.lt_of_lt_of_le hi (hpn β e))
   ·exact cell_same (hgr.block β hlt e) i
  ·rw [h.newp β hge] at hi;omega
 refine h.change hgr.os hgr.tape hgr.output hgr.size (fun k=>k=t∨r=some k) (fun β=>o=some β) (fun k hk=>hs1 k (fun e=>hk (.inl e)) (fun e=>hk (.inr e))) hu hg (fun β hβ hd=>⟨hgr.block β hβ hd,rfl⟩) (fun β hd hlt=>by have:=hoB β hd;omega)
  (fun _=>Zu _) hcell (fun β hβ=>h.newp β (Nat.le_trans hgr.size hβ)) ?_ ?_ ?_
 ·intro k β hk hl hvk hd
  have hkr:∃ k',r=some k':=by
   cases hrr:r with
   | none=>rw [hr0 hrr] at hd;cases hd
   | some k'=>exact ⟨k',rfl⟩
  obtain ⟨k',hk'⟩:=hkr
  obtain ⟨hl',hv'⟩:=hr k' hk'
  exact h.dist k k' β (fun e=>hk (.inr (by rw [e];exact hk'))) hl hl' hvk (hv'.trans hd)
 ·rintro k (rfl | hk)
  ·rw [hst];exact hB ⟨fun _=>Zu _,hcell,hg,hu⟩
  ·rw [hsr k hk];trivial
 ·rintro k k' β (rfl | hk) hne hl hl' hva hvb
  ·rw [upd_same] at hva
   by_cases e:r=some k'
   ·rw [hsr k' e] at hl';exact hl'
   ·rw [hs1 k' hne e] at hl'
    rw [upd_ne _ _ hne] at hvb
    rcases hv β hva with ho | ⟨h1,h2⟩
    ·have hkr:∃ k2,r=some k2:=by
      cases hrr:r with
      | none=>rw [hr0 hrr] at ho;cases ho
      | some k2=>exact ⟨k2,rfl⟩
     obtain ⟨k2,hk2⟩:=hkr
     obtain ⟨hl2,hv2⟩:=hr k2 hk2
     exact h.dist k2 k' β (fun e2=>e (by rw [← e2];exact hk2)) hl2 hl' (hv2.trans ho) hvb
    ·have:=(h.blk k').vblk_lt hl' hvb
     omega
  ·rw [hsr k hk] at hl;exact hl
theorem sim_append {α:Type} {E:Env} (hty:∀ t i,E.ty t=some i→mkTI P t=some i) {fr:Fr} {t ty tx rt:Nat} {i:TI} (hi:mkTI P ty=some i) (h:SInv B M w0 p0 w p g fr.st) (hk':(∃ e',P.underlying tx=some (.slice e'))∨P.underlying tx=some .string)
  {x y:Value} {s v:AV} (hx:RepV w p g (used fr.st) x s) (hy:RepV w p g (used fr.st) y v) {k:Ret α} {r:α} (hk:doAppend E fr t i s v k=some r) :
  ∃ v' st' fp,k v' st' fp=some r∧Good B M w0 p0 w p g fr.st v' st' ((Builtin.append_ #[ty,tx] rt #[x,y]).run P w):=by
 obtain ⟨info,z,a1,a2,a3,a4,a5,a6,a7,a8,a9,_⟩:=mkTI_info hi
 unfold doAppend at hk
 split at hk
 ·rename_i ht
  split at hk
  ·-- bytes
   rename_i e hkd
   rw [hkd] at a8
   obtain ⟨hu,hb8⟩:=kind_slice a8
   obtain ⟨hue,ei,he1,he2,he3,he4⟩:=isU8_iff hb8.symm
   have fin:∀ (new:List UInt8),Src P 1 tx y new.length (new.map u8v) w→∀ (r0:Option Nat) (l:List UInt8) (pub:Bool) (st':Nat→Blk),st'=upd (match r0 with | some k=>upd fr.st k .dead | none=>fr.st) t (.rowB e (l++new) pub) →
     RowOK w B e 1 x l.length (l.map u8v)→(∀ k,r0=some k→(fr.st k).live∧vblk (g k)=vblk x)→(r0=none→vblk x=none)→(∀ β,vblk x=some β→p β≤l.length∧(pub=false→p β=0))→room (l.length+new.length) 1=true →
     Good B M w0 p0 w p g fr.st (.row t) st' ((Builtin.append_ #[ty,tx] rt #[x,y]).run P w):=by
    intro new src r0 l pub st' hst' hrow hr0 hr1 hpp hroom
    rw [← he2] at src
    simp only [room,Zz] at hroom
    have hm1:=Zy hroom.1
    have hm2:=Zy hroom.2
    obtain ⟨v',w',hrun,hrow',hgr,hv'⟩:=run_append_row (P:=P) (ty:=rt) (B:=B) hu he1 he4 (by rw [he2];rfl) src (v:=x) (n:=l.length) (xs:=l.map u8v) (by rw [he2];exact hrow) (by rw [he3];exact hm1) hm2 h.size
    rw [he2] at hrow' hgr
    simp only [Nat.mul_one] at hgr
    have hoB:∀ β,vblk x=some β→B≤β:=fun β hv=>by
     obtain ⟨_,⟨_,a,hg⟩ | ⟨β',cap,cur,hg,h0,hB,_⟩⟩:=hrow
     ·rw [hg] at hv;cases a<;>simp [vblk] at hv
     ·rw [hg] at hv;have:β'=β:=by simp [vblk] at hv;exact hv.2
      omega
    obtain ⟨hs,hm⟩:=h.moveRow (t:=t) (r:=r0) (b := .rowB e (l++new) pub) (v':=v') (w':=w') (o:=vblk x) (n:=l.length) ht trivial hr0 hr1 hgr (fun β hv=>(hpp β hv).1) hoB hv' st' hst'
     (fun hm=>⟨by rw [upd_same];simpa using hrow',fun β hv=>by
      rw [upd_same] at hv
      rcases hv' β hv with ho | ⟨h1,h2⟩
      ·exact ⟨by have:=(hpp β ho).1;simp;omega,(hpp β ho).2⟩
      ·rw [h.newp β h1];exact ⟨Nat.zero_le _,fun _=>rfl⟩⟩)
    have hus:used st' t:=by unfold used;rw [hst',upd_same];simp
    have hgt:upd g t v' t=v':=upd_same _ _ _
    have hsl:∃ a l c,upd g t v' t = .slice a l c:=by
     rw [hgt]
     obtain ⟨_,⟨_,a,hg⟩ | ⟨β',cap,cur,hg,_⟩⟩:=hrow'
     ·exact ⟨_,_,_,hg⟩
     ·exact ⟨_,_,_,hg⟩
    have hrc:=RepC.row (w:=w') (p:=p) (g:=upd g t v') (u:=used st') hus hsl
    rw [hgt] at hrc
    exact ⟨v',w',p,_,hrun,hs,hm,RepC.v hrc⟩
   have app:∀ (new:List UInt8) (fp:FP),Src P 1 tx y new.length (new.map u8v) w→appB fr t e s new fp k=some r→∃ v' st' fp,k v' st' fp=some r∧Good B M w0 p0 w p g fr.st v' st' ((Builtin.append_ #[ty,tx] rt #[x,y]).run P w):=by
    intro new fp src hk2
    unfold appB at hk2
    split at hk2
    ·obtain ⟨hroom,hk3⟩:=chk_inv hk2
     obtain ⟨a,rfl⟩:=hx.nils
     have hnone:vblk (.slice a 0 0)=none:=by cases a<;>simp [vblk]
     exact ⟨_,_,_,hk3,fin new src none [] false _ rfl ⟨by simp,.inl ⟨rfl,a,rfl⟩⟩ (fun _ h=>by cases h) (fun _=>hnone) (fun β hv=>by rw [hnone] at hv;cases hv) (by simpa using hroom)⟩
    ·rename_i rr
     obtain ⟨hur,rfl,hgs⟩:=hx.row
     have hbk:=h.blk rr
     split at hk2
     ·rename_i e' l pub hst
      rw [hst] at hbk
      obtain ⟨hc,hk3⟩:=chk_inv hk2
      simp only [Zz] at hc
      have hee:=Zx hc.1
      subst hee
      exact ⟨_,_,_,hk3,fin new src (some rr) l pub _ rfl hbk.1 (fun k hk=>by cases hk;exact ⟨by rw [hst];trivial,rfl⟩) (fun h=>by cases h) hbk.2 hc.2⟩
     ·cases hk2
    ·cases hk2
   split at hk
   ·obtain ⟨str,rfl,rfl⟩:=hy.str
    exact app _ _ (src_string hk' str) hk
   ·rename_i rr m
    obtain ⟨hur,β,ln,cap,a,hg,hm,ha,rfl⟩:=hy.suf
    unfold appS at hk
    split at hk
    ·rename_i r' n
     obtain ⟨hur',β',ln',cap',hg',hn,rfl⟩:=hx.pre
     have hbk:=h.blk rr
     split at hk
     ·rename_i e' l pub hst
      rw [hst] at hbk
      obtain ⟨hc,hk3⟩:=chk_inv hk
      simp only [Zz,Bool.not_eq_true'] at hc
      obtain ⟨⟨⟨⟨hpos,hrr⟩,hee⟩,hpub⟩,hroom⟩:=hc
      have hrr':=Zx hrr
      have hee':=Zx hee
      subst hrr'
      subst hee'
      subst hpub
      rw [hg] at hg'
      cases hg'
      obtain ⟨⟨hlen,hrow⟩,hpp⟩:=hbk
      rw [hg] at hrow hpp
      rcases hrow with ⟨hn0,a0,hbad⟩ | ⟨β2,cap2,cur,hv,h0,hB,hh,hnc,hcm,hcs,htake⟩
      ·have:=Zy hpos
       omega
      cases hv
      have hcell:∀ i b,l[i]? = some b→w.cell? ⟨β,i,none⟩=some (u8v b):=fun i b hi=>by
       rw [cell_heap hh]
       have:(cur.toList.take (l.length*1))[i]? = some (u8v b):=by rw [htake];simp [hi]
       rw [List.getElem?_take] at this
       split at this
       ·simpa using this
       ·cases this
      have src:Src P 1 tx (.slice a (l.length-m) (cap-m)) (l.drop m).length ((l.drop m).map u8v) w:=by
       refine src_bytes hk' rfl (by simp) ?_
       rcases ha with ha | rfl
       ·exact .inl (by omega)
       ·refine .inr ⟨β,m,rfl,fun i b hi=> ?_⟩
        rw [List.getElem?_drop] at hi
        exact hcell _ _ hi
      have hln:(l.take n).length=n:=by simp;omega
      refine ⟨_,_,_,hk3,fin (l.drop m) src (some rr) (l.take n) false _ rfl ⟨by simp,.inr ⟨β,cap,cur,by rw [hln],h0,hB,hh,by omega,hcm,hcs,?_⟩⟩ (fun k hk=>by cases hk;exact ⟨by rw [hst];trivial,by rw [hg];simp [vblk]⟩) (fun h=>by cases h) (fun β3 hv3=> ?_) (by rw [hln,List.length_drop];exact hroom)⟩
      ·rw [hln]
       have e1:(cur.toList.take (l.length*1)).take (n*1)=(l.map u8v).take (n*1):=by rw [htake]
       rw [List.take_take,Nat.min_eq_left (by omega)] at e1
       rw [e1];simp
      ·have hv4:vblk (.slice (some ⟨β,0,none⟩) l.length cap)=some β3:=by rw [← hv3];simp [vblk]
       have:=(hpp β3 hv4).2 rfl
       rw [this];exact ⟨Nat.zero_le _,fun _=>rfl⟩
     ·cases hk
    ·cases hk
   ·obtain ⟨l,fp,a,len,cap,hk2,he,hl,hcap,hc⟩:=bytesOf_inv h hy hk
    exact app _ _ (src_bytes hk' he hl hc) hk2
  ·-- other elements
   rename_i e hkd
   rw [hkd] at a8
   obtain ⟨hu,hb8⟩:=kind_slice a8
   split at hk
   ·cases hk
   ·rename_i ei hei
    obtain ⟨info',z',b1,b2,b3,b4,b5,b6,b7,b8,b9,_⟩:=mkTI_info (hty _ _ hei)
    obtain ⟨new,fp,a,len,cap,vs,hk2,he,hl,hsz,hcells,hc⟩:=elsOf_inv h hy hk
    have hvl:vs.length=new.length*info'.size:=by rw [hcells.len,flat_length hsz,b2]
    have src:=src_els (P:=P) (w:=w) (sz:=info'.size) hk' he (n:=new.length) hl hvl hcells.oneI hc
    have hzs:z'.cells.size=info'.size:=by
     have:=(ofCells_rep (w:=w) (p:=p) b5).len
     simp at this
     omega
    have fin:∀ (r0:Option Nat) (l:List AV) (us:List Value) (pub:Bool) (st':Nat→Blk),st'=upd (match r0 with | some k=>upd fr.st k .dead | none=>fr.st) t (.rowL e ei.size (l++new) pub)→0<ei.size→(∀ y∈l,y.cells.length=ei.size)→Cells (RepI w p) us (l.flatMap AV.cells) →
      RowOK w B e ei.size x l.length us→(∀ k,r0=some k→(fr.st k).live∧vblk (g k)=vblk x)→(r0=none→vblk x=none)→(∀ β,vblk x=some β→p β≤l.length*ei.size∧(pub=false→p β=0))→room (l.length+new.length) ei.bytes=true →
      Good B M w0 p0 w p g fr.st (.row t) st' ((Builtin.append_ #[ty,tx] rt #[x,y]).run P w):=by
     intro r0 l us pub st' hst' hpos hlsz hlc hrow hr0 hr1 hpp hroom
     simp only [room,Zz] at hroom
     have hm1:=Zy hroom.1
     have hm2:=Zy hroom.2
     obtain ⟨v',w',hrun,hrow',hgr,hv'⟩:=run_append_row (P:=P) (ty:=rt) (B:=B) hu b1 b4 hzs src (v:=x) (n:=l.length) (xs:=us) (by rw [b2];exact hrow) (by rw [b3];exact hm1) hm2 h.size
     rw [b2] at hrow' hgr
     have hoB:∀ β,vblk x=some β→B≤β:=fun β hv=>by
      obtain ⟨_,⟨_,a,hg⟩ | ⟨β',cap,cur,hg,h0,hB,_⟩⟩:=hrow
      ·rw [hg] at hv;cases a<;>simp [vblk] at hv
      ·rw [hg] at hv;have:β'=β:=by simp [vblk] at hv;exact hv.2
       omega
     obtain ⟨hs,hm⟩:=h.moveRow (t:=t) (r:=r0) (b := .rowL e ei.size (l++new) pub) (v':=v') (w':=w') (o:=vblk x) (n:=l.length*ei.size) ht trivial hr0 hr1 hgr (fun β hv=>(hpp β hv).1) hoB hv' st' hst'
      (fun hm=>⟨hpos,fun y hy=>by
       rcases List.mem_append.1 hy with hy | hy
       ·exact hlsz y hy
       ·exact hsz y hy,us++vs,by rw [upd_same];simpa using hrow',by rw [List.flatMap_append];exact (hlc.append hcells).imp fun _ _=>hm.repI,fun β hv=>by
       rw [upd_same] at hv
       rcases hv' β hv with ho | ⟨h1,h2⟩
       ·exact ⟨by have:=(hpp β ho).1;rw [Zq,Zw];omega,(hpp β ho).2⟩
       ·rw [h.newp β h1];exact ⟨Nat.zero_le _,fun _=>rfl⟩⟩)
     have hus:used st' t:=by unfold used;rw [hst',upd_same];simp
     have hgt:upd g t v' t=v':=upd_same _ _ _
     have hsl:∃ a l c,upd g t v' t = .slice a l c:=by
      rw [hgt]
      obtain ⟨_,⟨_,a,hg⟩ | ⟨β',cap,cur,hg,_⟩⟩:=hrow'
      ·exact ⟨_,_,_,hg⟩
      ·exact ⟨_,_,_,hg⟩
     have hrc:=RepC.row (w:=w') (p:=p) (g:=upd g t v') (u:=used st') hus hsl
     rw [hgt] at hrc
     exact ⟨v',w',p,_,hrun,hs,hm,RepC.v hrc⟩
    unfold appL at hk2
    split at hk2
    ·obtain ⟨hroom,hk3⟩:=chk_inv hk2
     simp only [Zz] at hroom
     obtain ⟨a,rfl⟩:=hx.nils
     have hnone:vblk (.slice a 0 0)=none:=by cases a<;>simp [vblk]
     exact ⟨_,_,_,hk3,fin none [] [] false _ rfl (Zy hroom.1) (fun _ h=>by cases h) .nil ⟨by simp,.inl ⟨rfl,a,rfl⟩⟩ (fun _ h=>by cases h) (fun _=>hnone) (fun β hv=>by rw [hnone] at hv;cases hv) (by simpa using hroom.2)⟩
    ·rename_i rr
     obtain ⟨hur,rfl,hgs⟩:=hx.row
     have hbk:=h.blk rr
     split at hk2
     ·rename_i e' zz l pub hst
      rw [hst] at hbk
      obtain ⟨hc2,hk3⟩:=chk_inv hk2
      simp only [Zz] at hc2
      have hee:=Zx hc2.1.1
      have hzz:=Zx hc2.1.2
      subst hee
      subst hzz
      obtain ⟨hz0,hlsz,us,hrow,hlc,hpp⟩:=hbk
      exact ⟨_,_,_,hk3,fin (some rr) l us pub _ rfl hz0 hlsz hlc hrow (fun k hk=>by cases hk;exact ⟨by rw [hst];trivial,rfl⟩) (fun h=>by cases h) hpp hc2.2⟩
     ·cases hk2
    ·cases hk2
  ·cases hk
 ·cases hk
end
end Go.Abs
