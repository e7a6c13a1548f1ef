/- The types' facts; constants; operations that touch no memory. -/
import Derived.Test.YtmipfdjcnkljnaaAbsRep
import Derived.Laws.IdiomStrings
import Derived.Lib.Strings
open Go.Abs.AV renaming isCell→Zz
open Nat renaming eq_of_beq_eq_true→Zy
namespace Go.Abs
set_option linter.unusedVariables false
theorem mkTI_info {P:Program} {t:Nat} {i:TI} (h:mkTI P t=some i):∃ info z,P.info? t=some info∧info.size=i.size∧info.bytes=i.bytes∧info.zero=some z∧ofCells z.cells.toList=some i.zero∧i.zero.length=i.size∧i.cts.length=i.size∧kindOf P t=some i.kind∧ctsOf P 20 t=some i.cts∧i.eqc=(if P.eqGuardType P.depth t=false then (eqCts P 20 t).getD [] else []):=by
 unfold mkTI at h
 split at h
 ·rename_i info k cts h1 h2 h3
  cases hz:info.zero with
  | none=>simp [hz] at h
  | some z =>
   cases hc:ofCells z.cells.toList with
   | none=>simp [hz,hc] at h
   | some cs =>
    simp only [hz,Option.bind_some,hc] at h
    split at h
    ·rename_i hl
     simp at hl
     cases h
     exact ⟨info,z,h1,rfl,rfl,hz,hc,hl.1,hl.2,h2,h3,rfl⟩
    ·cases h
 ·cases h
theorem kind_slice {P:Program} {t e:Nat} {b:Bool} (h:kindOf P t=some (.slice e b)):P.underlying t=some (.slice e)∧b=isU8 P e:=by
 unfold kindOf at h
 split at h<;>first | (cases h;exact ⟨by assumption,rfl⟩) | (split at h<;>cases h) | cases h
theorem kind_arr {P:Program} {t n e:Nat} {b:Bool} (h:kindOf P t=some (.arr n e b)):P.underlying t=some (.array n e)∧b=isU8 P e:=by
 unfold kindOf at h
 split at h<;>first | (cases h;exact ⟨by assumption,rfl⟩) | (split at h<;>cases h) | cases h
theorem kind_ptr {P:Program} {t e:Nat} (h:kindOf P t=some (.ptr e)):P.underlying t=some (.pointer e):=by
 unfold kindOf at h
 split at h<;>first | (cases h;assumption) | (split at h<;>cases h) | cases h
theorem kind_str {P:Program} {t:Nat} (h:kindOf P t=some .str):P.underlying t=some .string:=by
 unfold kindOf at h
 split at h<;>first | (cases h;assumption) | (split at h<;>cases h) | cases h
theorem kind_bool {P:Program} {t:Nat} (h:kindOf P t=some .bool):P.underlying t=some .bool:=by
 unfold kindOf at h
 split at h<;>first | (cases h;assumption) | (split at h<;>cases h) | cases h
theorem kind_u8 {P:Program} {t:Nat} (h:kindOf P t=some .u8):P.underlying t=some (.int .u8):=by
 unfold kindOf at h
 split at h<;>first | (cases h;assumption) | (split at h<;>cases h) | cases h
theorem kind_int {P:Program} {t:Nat} {k:IntKind} (h:kindOf P t=some (.int k)):P.underlying t=some (.int k)∧k ≠ .u8:=by
 unfold kindOf at h
 split at h
 ·cases h
 ·rename_i k' hne hu
  cases h
  exact ⟨hu,fun e=>hne (by rw [← e])⟩
 all_goals (try (split at h))<;>cases h
theorem kind_struct {P : Program} {t : Nat} {fs : List (Nat × Nat)} (h : kindOf P t = some (.struct fs)) : ∃ fields, P.underlying t = some (.struct fields) ∧ (∀ f ∈ fields.toList, sized P f.type = true ∧ f.name ≠ "_") ∧ fs = fields.toList.map fun f => (f.offset, f.type) := by
 unfold kindOf at h
 split at h
 case h_8 fields hu =>
  split at h
  ·rename_i hall
   cases h
   refine ⟨fields,hu,fun f hf=> ?_,rfl⟩
   have:=List.all_eq_true.1 hall f hf
   simp at this
   exact this
  ·cases h
 all_goals cases h
theorem isU8_iff {P:Program} {e:Nat} (h:isU8 P e=true):P.underlying e=some (.int .u8)∧∃ info,P.info? e=some info∧info.size=1∧info.bytes=1∧info.zero=some (.int .u8 0):=by
 unfold isU8 at h
 split at h
 ·rename_i i h1 h2
  simp only [Bool.and_eq_true,beq_iff_eq] at h
  refine ⟨h1,i,h2,h.1.1,h.1.2,?_⟩
  have h3:=h.2
  split at h3
  ·assumption
  ·cases h3
 ·cases h
theorem run_isAgg {P:Program} {t:Nat} {k:TK} (h:kindOf P t=some k) (w:World):(isAgg t).run P w = .ok (isAggK k) w:=by
 unfold isAgg
 cases k with
 | int k=>simp [run_underlying (kind_int h).1,isAggK]
 | u8=>simp [run_underlying (kind_u8 h),isAggK]
 | bool=>simp [run_underlying (kind_bool h),isAggK]
 | str=>simp [run_underlying (kind_str h),isAggK]
 | slice e b=>simp [run_underlying (kind_slice h).1,isAggK]
 | arr n e b=>simp [run_underlying (kind_arr h).1,isAggK]
 | struct fs=>obtain ⟨fields,hu,_⟩:=kind_struct h;simp [run_underlying hu,isAggK]
 | ptr e=>simp [run_underlying (kind_ptr h),isAggK]
 | other=>unfold kindOf at h;split at h<;>first | (split at h<;>cases h) | cases h
theorem run_sizeOf {P:Program} {t:Nat} {info:TypeInfo} (h:P.info? t=some info) (w:World):(sizeOf t).run P w = .ok info.size w:=by
 simp [sizeOf,typeInfo,h]
theorem run_zeroValue {P:Program} {t:Nat} {info:TypeInfo} {z:Value} (h:P.info? t=some info) (hz:info.zero=some z) (w:World):(zeroValue t).run P w = .ok z w:=by
 simp [zeroValue,typeInfo,h,hz]
theorem mkInt_ne {k:IntKind} (hk:k ≠ .u8) (n:Int):mkInt k n = .int k n:=by cases k<;>first | rfl | exact absurd rfl hk
theorem repI_mkInt {w:World} {p:Prot} {k:IntKind} {n:Int} (h:k = .u8→0≤n∧n<256):RepI w p (.int k n) (mkInt k n):=by
 by_cases hk:k = .u8
 ·subst hk
  obtain ⟨h0,h1⟩:=h rfl
  have e:(Value.int .u8 n)=u8v (UInt8.ofNat n.toNat):=by
   unfold u8v
   congr 1
   rw [UInt8.toNat_ofNat']
   omega
  rw [e]
  exact .u8
 ·rw [mkInt_ne hk];exact .int hk
theorem wrap_u8 (n:Int):0≤IntKind.u8.wrap n∧IntKind.u8.wrap n<256:=by
 unfold IntKind.wrap
 simp [IntKind.bits,IntKind.signed]
 omega
theorem ofCell_rep {w:World} {p:Prot} {v:Value} {a:AV} (h:ofCell v=some a):RepI w p v a:=by
 unfold ofCell at h
 split at h
 ·cases h;exact .bool
 ·rename_i k n
  split at h
  ·cases hc:(decide (0≤n)&&decide (n<256)) with
   | false=>simp [hc] at h
   | true =>
    rw [hc] at h
    have h':AV.u8 (UInt8.ofNat n.toNat)=a:=by simpa using h
    subst h'
    simp at hc
    exact repI_mkInt (k := .u8) fun _=>hc
  ·rename_i hk
   cases h;exact .int fun e=>hk e
 ·cases h;exact .str rfl
 ·cases h;exact .nils
 ·cases h;exact .nilp
 ·cases h
theorem ofCells_rep {w:World} {p:Prot}:∀ {vs:List Value} {as:List AV},ofCells vs=some as→Cells (RepI w p) vs as
 | [],as,h=>by simp [ofCells] at h;subst h;exact .nil
 | v::r,as,h=>by
  simp only [ofCells] at h
  split at h
  ·rename_i a l h1 h2
   cases h
   exact .cons (ofCell_rep h1) (ofCells_rep h2)
  ·cases h
section
variable {w:World} {p:Prot} {g:Nat→Value} {u:Nat→Prop}
theorem ofVal_rep {v:Value} {a:AV} (h:ofVal v=some a):RepV w p g u v a:=by
 unfold ofVal at h
 split at h
 ·rename_i cs
  cases hc:ofCells cs.toList with
  | none=>simp [hc] at h
  | some l =>
   simp [hc] at h
   subst h
   exact .inr (.inl (.inr ⟨cs,l,rfl,rfl,(ofCells_rep hc).imp fun _ _ => .imm⟩))
 ·exact .inr (.inl (.inl (.imm (ofCell_rep h))))
theorem RepI.cell1 {v:Value} {a:AV} (h:RepI w p v a):v.cells = #[v]∧v.oneCell'=true∧a.cells=[a]∧a.isCell=true:=by
 cases h<;>simp [Value.cells,Value.oneCell',AV.cells,Zz,u8v]
theorem RepC.cell1 {v:Value} {a:AV} (h:RepC w p g u v a):v.cells = #[v]∧v.oneCell'=true∧a.cells=[a]∧a.isCell=true:=by
 cases h with
 | imm h=>exact h.cell1
 | ptr=>simp [Value.cells,Value.oneCell',AV.cells,Zz]
 | eptr=>simp [Value.cells,Value.oneCell',AV.cells,Zz]
 | row hu hs=>obtain ⟨a,l,c,e⟩:=hs;rw [e];simp [Value.cells,Value.oneCell',AV.cells,Zz]
 | psl=>simp [Value.cells,Value.oneCell',AV.cells,Zz]
 | pptr=>simp [Value.cells,Value.oneCell',AV.cells,Zz]
 | pre=>simp [Value.cells,Value.oneCell',AV.cells,Zz]
 | suf=>simp [Value.cells,Value.oneCell',AV.cells,Zz]
 | clo=>simp [Value.cells,Value.oneCell',AV.cells,Zz]
theorem RepV.cells {v:Value} {a:AV} (h:RepV w p g u v a) (hc:a.cells.all Zz=true):Cells (RepC w p g u) v.cells.toList a.cells:=by
 rcases h with rfl | (h | ⟨arr,cs,rfl,rfl,h⟩) | ⟨arr,cs,rfl,rfl,h⟩
 ·simp [AV.cells,Zz] at hc
 ·rw [h.cell1.1,h.cell1.2.2.1];exact .cons h .nil
 ·exact h
 ·simp [AV.cells,Zz] at hc
theorem Cells.one {vs:List Value} {cs:List AV} (h:Cells (RepC w p g u) vs cs):∀ v∈vs,v.oneCell'=true:=by
 intro v hv
 obtain ⟨i,hi⟩:=List.getElem?_of_mem hv
 have hlt:i<cs.length:=by rw [← h.len];exact (List.getElem?_eq_some_iff.1 hi).1
 exact (h.each i v _ hi (List.getElem?_eq_getElem hlt)).cell1.2.1
theorem Cells.oneI {vs:List Value} {cs:List AV} (h:Cells (RepI w p) vs cs):∀ v∈vs,v.oneCell'=true:=by
 intro v hv
 obtain ⟨i,hi⟩:=List.getElem?_of_mem hv
 have hlt:i<cs.length:=by rw [← h.len];exact (List.getElem?_eq_some_iff.1 hi).1
 exact (h.each i v _ hi (List.getElem?_eq_getElem hlt)).cell1.2.1
theorem RepV.int {v:Value} {k:IntKind} {n:Int} (h:RepV w p g u v (.int k n)):v = .int k n∧k ≠ .u8:=by
 rcases h with h | (h | ⟨arr,cs,_,h,_⟩) | ⟨arr,cs,_,h,_⟩<;>first | cases h
 rename_i h;cases h;exact ⟨rfl,by assumption⟩
theorem RepV.u8 {v:Value} {b:UInt8} (h:RepV w p g u v (.u8 b)):v=u8v b:=by
 rcases h with h | (h | ⟨arr,cs,_,h,_⟩) | ⟨arr,cs,_,h,_⟩<;>first | cases h
 rename_i h;cases h;rfl
theorem RepV.bool {v:Value} {b:Bool} (h:RepV w p g u v (.bool b)):v = .bool b:=by
 rcases h with h | (h | ⟨arr,cs,_,h,_⟩) | ⟨arr,cs,_,h,_⟩<;>first | cases h
 rename_i h;cases h;rfl
theorem RepV.str {v:Value} {l:List UInt8} (h:RepV w p g u v (.str l)):∃ s:ByteArray,v = .string s∧s.data.toList=l:=by
 rcases h with h | (h | ⟨arr,cs,_,h,_⟩) | ⟨arr,cs,_,h,_⟩<;>first | cases h
 rename_i h;cases h;exact ⟨_,rfl,by assumption⟩
theorem RepV.bs {v:Value} {l:List UInt8} (h:RepV w p g u v (.bs l)):RepI w p v (.bs l):=by
 rcases h with h | (h | ⟨arr,cs,_,h,_⟩) | ⟨arr,cs,_,h,_⟩<;>first | cases h
 assumption
theorem RepV.sl {v:Value} {z:Nat} {l:List AV} (h:RepV w p g u v (.sl z l)):RepI w p v (.sl z l):=by
 rcases h with h | (h | ⟨arr,cs,_,h,_⟩) | ⟨arr,cs,_,h,_⟩<;>first | cases h
 assumption
theorem RepV.nils {v:Value} (h:RepV w p g u v .nils):∃ a,v = .slice a 0 0:=by
 rcases h with h | (h | ⟨arr,cs,_,h,_⟩) | ⟨arr,cs,_,h,_⟩<;>first | cases h
 rename_i h;cases h;exact ⟨_,rfl⟩
theorem RepV.row {v:Value} {k:Nat} (h:RepV w p g u v (.row k)):u k∧v=g k∧∃ a l c,g k = .slice a l c:=by
 rcases h with h | (h | ⟨arr,cs,_,h,_⟩) | ⟨arr,cs,_,h,_⟩<;>first | cases h
 ·rename_i h;cases h
 ·exact ⟨by assumption,rfl,by assumption⟩
theorem RepV.ptr {v:Value} {k off:Nat} (h:RepV w p g u v (.ptr k off)):u k∧∃ β,g k = .pointer (some ⟨β,0,none⟩)∧v = .pointer (some ⟨β,off,none⟩):=by
 rcases h with h | (h | ⟨arr,cs,_,h,_⟩) | ⟨arr,cs,_,h,_⟩<;>first | cases h
 ·rename_i h;cases h
 ·exact ⟨by assumption,_,by assumption,rfl⟩
theorem RepV.eptr {v:Value} {k i sz off:Nat} (h:RepV w p g u v (.eptr k i sz off)):u k∧∃ β,vblk (g k)=some β∧v = .pointer (some ⟨β,i*sz+off,none⟩):=by
 rcases h with h | (h | ⟨arr,cs,_,h,_⟩) | ⟨arr,cs,_,h,_⟩<;>first | cases h
 ·rename_i h;cases h
 ·exact ⟨by assumption,_,by assumption,rfl⟩
theorem RepV.rptr {v:Value} {cs:List AV} (h:RepV w p g u v (.rptr cs)):RepI w p v (.rptr cs):=by
 rcases h with h | (h | ⟨arr,cs,_,h,_⟩) | ⟨arr,cs,_,h,_⟩<;>first | cases h
 assumption
theorem RepV.pptr {v:Value} {k off:Nat} (h:RepV w p g u v (.pptr k off)):u k∧∃ β j b,g k = .pointer (some ⟨b,0,none⟩)∧v = .pointer (some ⟨β,j,none⟩)∧w.cell? ⟨β,j,none⟩=some (.pointer (some ⟨b,off,none⟩)):=by
 rcases h with h | (h | ⟨arr,cs,_,h,_⟩) | ⟨arr,cs,_,h,_⟩<;>first | cases h
 ·rename_i h;cases h
 ·rename_i hp hu hg hc;exact ⟨by assumption,_,_,_,by assumption,rfl,by assumption⟩
theorem RepV.psl {v:Value} {k:Nat} {offs:List Nat} (h:RepV w p g u v (.psl k offs)):u k∧∃ β b cap,g k = .pointer (some ⟨b,0,none⟩)∧v = .slice (some ⟨β,0,none⟩) offs.length cap∧∀ (j off:Nat),offs[j]? = some off→j<p β∧w.cell? ⟨β,j,none⟩=some (.pointer (some ⟨b,off,none⟩)):=by
 rcases h with h | (h | ⟨arr,cs,_,h,_⟩) | ⟨arr,cs,_,h,_⟩<;>first | cases h
 ·rename_i h;cases h
 ·exact ⟨by assumption,_,_,_,by assumption,rfl,by assumption⟩
theorem RepV.fn {v:Value} {f:Nat} (h:RepV w p g u v (.fn f)):v = .func (.func f) #[] #[]:=by
 rcases h with h | (h | ⟨arr,cs,_,h,_⟩) | ⟨arr,cs,_,h,_⟩<;>first | cases h
 rename_i h;cases h;rfl
theorem RepV.clo {v:Value} {f:Nat} {fs cs:List (Nat×Nat)} (h:RepV w p g u v (.clo f fs cs)):∃ vs us:Array Value,v = .func (.func f) vs us∧Cells (RepV w p g u) vs.toList (ofPtrs fs)∧Cells (RepV w p g u) us.toList (ofPtrs cs):=by
 have key:∀ {vs:Array Value} {fs:List (Nat×Nat)},vs.size=fs.length→(∀ (j k off:Nat),fs[j]? = some (k,off)→u k∧∃ β,g k = .pointer (some ⟨β,0,none⟩)∧vs[j]? = some (.pointer (some ⟨β,off,none⟩)))→Cells (RepV w p g u) vs.toList (ofPtrs fs):=by
  intro vs fs h1 h2
  refine ⟨by simp [ofPtrs,h1],fun i v c hv hc=> ?_⟩
  simp only [ofPtrs,List.getElem?_map,Option.map_eq_some_iff] at hc
  obtain ⟨⟨k,off⟩,hj,rfl⟩:=hc
  obtain ⟨hu,β,hg,hx⟩:=h2 i k off hj
  have:v = .pointer (some ⟨β,off,none⟩):=by
   have hv':vs[i]? = some v:=by simpa using hv
   rw [hx] at hv';cases hv';rfl
  subst this
  exact .inr (.inl (.inl (.ptr hu hg)))
 rcases h with h | (h | ⟨arr,cs,_,h,_⟩) | ⟨arr,cs,_,h,_⟩
 ·cases h
 ·cases h with
  | imm h=>cases h
  | clo h1 h2 hf hc=>exact ⟨_,_,rfl,key h1 hf,key h2 hc⟩
 ·cases h
 ·cases h
theorem RepV.pre {v:Value} {k n:Nat} (h:RepV w p g u v (.pre k n)):u k∧∃ β l cap,g k = .slice (some ⟨β,0,none⟩) l cap∧n≤l∧v = .slice (some ⟨β,0,none⟩) n cap:=by
 rcases h with h | (h | ⟨arr,cs,_,h,_⟩) | ⟨arr,cs,_,h,_⟩<;>first | cases h
 ·rename_i h;cases h
 ·exact ⟨by assumption,_,_,_,by assumption,by assumption,rfl⟩
theorem RepV.suf {v:Value} {k m:Nat} (h:RepV w p g u v (.suf k m)):u k∧∃ β l cap a,g k = .slice (some ⟨β,0,none⟩) l cap∧m≤l∧(m=l∨a=some ⟨β,m,none⟩)∧v = .slice a (l-m) (cap-m):=by
 rcases h with h | (h | ⟨arr,cs,_,h,_⟩) | ⟨arr,cs,_,h,_⟩<;>first | cases h
 ·rename_i h;cases h
 ·exact ⟨by assumption,_,_,_,_,by assumption,by assumption,by assumption,rfl⟩
theorem RepV.agg {v:Value} {cs:List AV} (h:RepV w p g u v (.agg cs)):∃ arr,v = .agg arr∧Cells (RepC w p g u) arr.toList cs:=by
 rcases h with h | (h | ⟨arr,cs',rfl,h,hc⟩) | ⟨arr,cs,_,h,_⟩
 ·cases h
 ·cases h with | imm h=>cases h
 ·cases h;exact ⟨arr,rfl,hc⟩
 ·cases h
theorem RepV.tup {v:Value} {as:List AV} (h:RepV w p g u v (.tup as)):∃ arr,v = .tuple arr∧Cells (RepW w p g u) arr.toList as:=by
 rcases h with h | (h | ⟨arr,cs',rfl,h,hc⟩) | ⟨arr,as',rfl,h,hc⟩
 ·cases h
 ·cases h with | imm h=>cases h
 ·cases h
 ·cases h;exact ⟨arr,rfl,hc⟩
theorem RepI.v {v:Value} {a:AV} (h:RepI w p v a):RepV w p g u v a := .inr (.inl (.inl (.imm h)))
theorem RepC.v {v:Value} {a:AV} (h:RepC w p g u v a):RepV w p g u v a := .inr (.inl (.inl h))
end
end Go.Abs
/- Operations on memory: new blocks, loads, stores. -/
namespace Go.Abs
set_option linter.unusedVariables false
section
variable {P:Program} {B:Nat} {M:Nat→Prop} {w0:World} {p0:Prot} {w:World} {p:Prot} {g:Nat→Value}
def Good (B:Nat) (M:Nat→Prop) (w0:World) (p0:Prot) (w:World) (p:Prot) (g:Nat→Value) (st:Nat→Blk) (v:AV) (st':Nat→Blk) (r:Result Value):Prop :=
 ∃ v' w' p' g',r = .ok v' w'∧SInv B M w0 p0 w' p' g' st'∧Mono w p g (used st) w' p' g' (used st')∧RepV w' p' g' (used st') v' v
theorem Good.same {st:Nat→Blk} {v:AV} {v':Value} {r:Result Value} (h:SInv B M w0 p0 w p g st) (hr:r = .ok v' w) (hv:RepV w p g (used st) v' v):Good B M w0 p0 w p g st v st r :=
 ⟨v',w,p,g,hr,h,Mono.refl,hv⟩
theorem heap_push_old (w:World) (o:Obj) {β:Nat} (h:β<w.heap.size):(w.alloc o).heap[β]? = w.heap[β]? := Go.RowKit.Below.heap_alloc w o β h
theorem heap_push_new (w:World) (o:Obj):(w.alloc o).heap[w.heap.size]? = some o:=heap_alloc_new w o
theorem SInv.newp_alloc {st:Nat→Blk} (h:SInv B M w0 p0 w p g st) (o:Obj):∀ β,(w.alloc o).heap.size≤β→p β=0:=fun β hβ=>h.newp β (by simp at hβ;omega)
theorem good_newCells {st:Nat→Blk} {t:Nat} (h:SInv B M w0 p0 w p g st) (ht:st t = .free) (c:Array Value) (e:TypeId) {cs:List AV} (hc:Cells (RepC w p g (used st)) c.toList cs) :
  Good B M w0 p0 w p g st (.ptr t 0) (upd st t (.cells cs)) (.ok (.pointer (some ⟨w.heap.size,0,none⟩)) (w.alloc (.cells c e))):=by
 obtain ⟨hs,hm⟩:=h.add (w':=w.alloc (.cells c e)) (p':=p) (t:=t) (b := .cells cs) (v := .pointer (some ⟨w.heap.size,0,none⟩)) ht (by simp) rfl rfl rfl (by simp)
  (fun β hβ=>⟨heap_push_old w _ hβ,rfl⟩) (fun _=>Nat.le_refl _) (h.newp_alloc _) (fun β hβ=>by simp [vblk] at hβ;omega)
  (fun hm=>⟨w.heap.size,c,e,by rw [upd_same],.inr h.size,heap_push_new w _,hc.imp fun _ _=>hm.repC,h.newp _ (Nat.le_refl _)⟩)
 refine ⟨_,_,p,_,rfl,hs,hm,RepC.v (.ptr ?_ (by rw [upd_same]))⟩
 unfold used;rw [upd_same];simp
theorem good_newBarr {st:Nat→Blk} {t:Nat} (h:SInv B M w0 p0 w p g st) (ht:st t = .free) (c:Array Value) (e:TypeId) {l:List UInt8} (hc:c.toList=l.map u8v) :
  Good B M w0 p0 w p g st (.ptr t 0) (upd st t (.barr l false)) (.ok (.pointer (some ⟨w.heap.size,0,none⟩)) (w.alloc (.cells c e))):=by
 have hp:p w.heap.size=0:=h.newp _ (Nat.le_refl _)
 obtain ⟨hs,hm⟩:=h.add (w':=w.alloc (.cells c e)) (p':=p) (t:=t) (b := .barr l false) (v := .pointer (some ⟨w.heap.size,0,none⟩)) ht (by simp) rfl rfl rfl (by simp)
  (fun β hβ=>⟨heap_push_old w _ hβ,rfl⟩) (fun _=>Nat.le_refl _) (h.newp_alloc _) (fun β hβ=>by simp [vblk] at hβ;omega)
  (fun hm=>⟨w.heap.size,c,e,by rw [upd_same],h.size,heap_push_new w _,hc,by omega,fun _=>hp⟩)
 refine ⟨_,_,p,_,rfl,hs,hm,RepC.v (.ptr ?_ (by rw [upd_same]))⟩
 unfold used;rw [upd_same];simp
theorem u8s_map:∀ {as:List AV} {l:List UInt8},u8s as=some l→as=l.map .u8
 | [],l,h=>by simp [u8s] at h;subst h;rfl
 | a::r,l,h=>by
  cases a<;>simp [u8s] at h
  obtain ⟨l',h',rfl⟩:=h
  rw [u8s_map h'];rfl
theorem cells_u8 {R:Value→AV→Prop} (hR:∀ v b,R v (.u8 b)→v=u8v b):∀ {vs:List Value} {l:List UInt8},Cells R vs (l.map .u8)→vs=l.map u8v
 | vs,[],h=>h.nil_iff
 | vs,b::l,h=>by
  obtain ⟨v,vs',rfl,h1,h2⟩:=h.uncons
  rw [hR v b h1,cells_u8 hR h2];rfl
theorem repI_u8 {v:Value} {b:UInt8} (h:RepI w p v (.u8 b)):v=u8v b:=by cases h;rfl
theorem run_alloc {t:Nat} {info:TypeInfo} {z:Value} (hi:P.info? t=some info) (hz:info.zero=some z) :
  (Instr.alloc t true (.tuple #[])).run P w = .ok (.pointer (some ⟨w.heap.size,0,none⟩)) (w.alloc (.cells z.cells t)):=by
 unfold Instr.alloc
 simp [run_zeroValue hi hz,newVar,newRow]
theorem sim_alloc {α:Type} {fr:Fr} {e t:Nat} {i:TI} (hi:mkTI P e=some i) (h:SInv B M w0 p0 w p g fr.st) {k:Ret α} {r:α}
  (hk:(match i.kind with | .arr _ _ true=>(u8s i.zero).bind fun l=>newBlk fr t (.barr l false) (.ptr t 0) k | _=>newBlk fr t (.cells i.zero) (.ptr t 0) k)=some r) :
  ∃ v st' fp,k v st' fp=some r∧Good B M w0 p0 w p g fr.st v st' ((Instr.alloc e true (.tuple #[])).run P w):=by
 obtain ⟨info,z,h1,h2,h3,h4,h5,h6,h7,h8,h9,_⟩:=mkTI_info hi
 rw [run_alloc h1 h4]
 have hz:=ofCells_rep (w:=w) (p:=p) h5
 have key:newBlk fr t (.cells i.zero) (.ptr t 0) k=some r→∃ v st' fp,k v st' fp=some r∧Good B M w0 p0 w p g fr.st v st' (.ok (.pointer (some ⟨w.heap.size,0,none⟩)) (w.alloc (.cells z.cells e))):=by
  intro hk
  unfold newBlk at hk
  split at hk
  ·rename_i ht
   exact ⟨_,_,_,hk,good_newCells h ht _ _ (hz.imp fun _ _ => .imm)⟩
  ·cases hk
 split at hk
 ·cases hl:u8s i.zero with
  | none=>simp [hl] at hk
  | some l =>
   simp only [hl,Option.bind_some,newBlk] at hk
   split at hk
   ·rename_i ht
    refine ⟨_,_,_,hk,good_newBarr h ht _ _ ?_⟩
    rw [u8s_map hl] at hz
    exact cells_u8 (fun v b=>repI_u8) hz
   ·cases hk
 ·exact key hk
theorem sim_box {α:Type} {fr:Fr} {e t:Nat} {i:TI} {x:Value} {a:AV} (h:SInv B M w0 p0 w p g fr.st) (hx:RepV w p g (used fr.st) x a) {k:Ret α} {r:α}
  (hk:(bif a.cells.length==i.size&&a.cells.all Zz then newBlk fr t (.cells a.cells) (.ptr t 0) k else none)=some r) :
  ∃ v st' fp,k v st' fp=some r∧Good B M w0 p0 w p g fr.st v st' ((Instr.box e x).run P w):=by
 cases hc:(a.cells.length==i.size&&a.cells.all Zz) with
 | false=>simp [hc] at hk
 | true =>
  simp only [hc,cond_true,newBlk] at hk
  simp only [Bool.and_eq_true] at hc
  split at hk
  ·rename_i ht
   refine ⟨_,_,_,hk,?_⟩
   have:(Instr.box e x).run P w = .ok (.pointer (some ⟨w.heap.size,0,none⟩)) (w.alloc (.cells x.cells e)):=by
    unfold Instr.box;simp [newVar,newRow]
   rw [this]
   exact good_newCells h ht _ _ (hx.cells hc.2)
  ·cases hk
theorem addr_add (β off j:Nat):(⟨β,off,none⟩:Addr).add j=⟨β,off+j,none⟩:=by unfold Addr.add;split<;>simp_all
theorem run_loadVar {t:Nat} {i:TI} (hi:mkTI P t=some i) {β off:Nat} {vs:List Value} (hl:vs.length=i.size∨(isAggK i.kind=false∧0<vs.length))
  (hc:∀ j v,vs[j]? = some v→w.cell? ⟨β,off+j,none⟩=some v) :
  (loadVar t ⟨β,off,none⟩).run P w = .ok (if isAggK i.kind then .agg vs.toArray else vs.headD undef) w∨vs=[]:=by
 obtain ⟨info,z,h1,h2,h3,h4,h5,h6,h7,h8,h9,_⟩:=mkTI_info hi
 cases hk:isAggK i.kind with
 | true =>
  left
  have hl':vs.length=i.size:=by rcases hl with hl | hl;exact hl;rw [hk] at hl;cases hl.1
  have hld:=run_loadCells_list (P:=P) w ⟨β,off,none⟩ vs (fun j v hj=>by rw [addr_add];exact hc j v hj)
  rw [hl',← h2] at hld
  simp [loadVar,run_isAgg h8,hk,run_sizeOf h1,hld]
 | false =>
  cases vs with
  | nil=>exact .inr rfl
  | cons v vs =>
   left
   have:=hc 0 v rfl
   simp [loadVar,run_isAgg h8,hk]
   rw [show off=off+0 from rfl,this]
def GoodR (w:World) (p:Prot) (g:Nat→Value) (st:Nat→Blk) (v:AV) (r:Result Value):Prop:=∃ v',r = .ok v' w∧RepV w p g (used st) v' v
theorem GoodR.same {st:Nat→Blk} {v:AV} {v':Value} {r:Result Value} (hr:r = .ok v' w) (hv:RepV w p g (used st) v' v):GoodR w p g st v r:=⟨v',hr,hv⟩
theorem GoodR.good {st:Nat→Blk} {v:AV} {r:Result Value} (h:SInv B M w0 p0 w p g st) (hg:GoodR w p g st v r):Good B M w0 p0 w p g st v st r:=by
 obtain ⟨v',hr,hv⟩:=hg
 exact Good.same h hr hv
theorem sim_loadCells {α:Type} {st:Nat→Blk} {t:Nat} {i:TI} (hi:mkTI P t=some i) (h:SInv B M w0 p0 w p g st) {β off:Nat} {vs:List Value} {cs:List AV} (hcs:Cells (RepC w p g (used st)) vs cs)
  (hc:∀ j v,vs[j]? = some v→w.cell? ⟨β,off+j,none⟩=some v) {k:AV→Option α} {r:α} (hk:loadCells i cs k=some r) :
  ∃ v,k v=some r∧GoodR w p g st v ((loadVar t ⟨β,off,none⟩).run P w):=by
 unfold loadCells at hk
 cases hb:Nat.ble i.size cs.length with
 | false=>simp [hb] at hk
 | true =>
  simp only [hb,cond_true] at hk
  have hle:i.size≤cs.length:=Nat.le_of_ble_eq_true hb
  split at hk
  ·rename_i hagg
   refine ⟨_,hk,?_⟩
   have h1:=run_loadVar (P:=P) (w:=w) hi (β:=β) (off:=off) (vs:=vs.take i.size) (.inl (by simp [hcs.len];omega)) (fun j v hj=>by
    rw [List.getElem?_take] at hj
    split at hj
    ·exact hc j v hj
    ·cases hj)
   have h1':(loadVar t ⟨β,off,none⟩).run P w = .ok (.agg (vs.take i.size).toArray) w:=by
    rcases h1 with h1 | h1
    ·rw [h1,hagg];rfl
    ·obtain ⟨info,z,a1,a2,a3,a4,a5,a6,a7,a8,a9,_⟩:=mkTI_info hi
     have hz:i.size=0:=by
      have:=congrArg List.length h1
      rw [List.length_take,hcs.len,List.length_nil] at this
      omega
     have hld:=run_loadCells_list (P:=P) w ⟨β,off,none⟩ [] (fun j v hj=>by simp at hj)
     simp only [List.length_nil] at hld
     rw [hz] at a2
     simp [loadVar,run_isAgg a8,hagg,run_sizeOf a1,a2,hld,hz]
   exact GoodR.same h1' (.inr (.inl (.inr ⟨_,_,rfl,rfl,by simpa using hcs.take i.size⟩)))
  ·rename_i hagg
   cases cs with
   | nil=>simp at hk
   | cons c cs =>
    obtain ⟨v,vs',rfl,hv,_⟩:=hcs.uncons
    refine ⟨_,hk,?_⟩
    have h1:=run_loadVar (P:=P) (w:=w) hi (β:=β) (off:=off) (vs:=v::vs') (.inr ⟨hagg,by simp⟩) hc
    rcases h1 with h1 | h1
    ·rw [hagg] at h1
     exact GoodR.same h1 (RepC.v hv)
    ·cases h1
theorem cells_el {R:Value→AV→Prop} {vs:List Value} {els:List AV} {sz:Nat} (h:Cells R vs (els.flatMap AV.cells)) (hsz:∀ x∈els,x.cells.length=sz) {j:Nat} {x:AV} (hj:els[j]? = some x) (off:Nat) :
  Cells R ((vs.drop (j*sz+off)).take (sz-off)) (x.cells.drop off):=by
 have hx:=hsz x (List.mem_of_getElem? hj)
 have hjl:j<els.length:=(List.getElem?_eq_some_iff.1 hj).1
 have hl:=h.len
 rw [flat_length hsz] at hl
 have hge:(j+1)*sz≤els.length*sz:=Nat.mul_le_mul_right sz hjl
 rw [Nat.add_mul] at hge
 refine ⟨?_,fun i v c hv hc=> ?_⟩
 ·rw [List.length_take,List.length_drop,List.length_drop,hx]
  omega
 ·rw [List.getElem?_take] at hv
  split at hv
  ·rw [List.getElem?_drop] at hv hc
   have:=flat_get hsz hj hc
   rw [Nat.add_assoc] at hv
   exact h.each _ v c hv this
  ·cases hv
theorem sim_doLoadR {α:Type} {E:Env} (hty:∀ t i,E.ty t=some i→mkTI P t=some i) {fr:Fr} {t:Nat} {i:TI} (hi:mkTI P t=some i) (h:SInv B M w0 p0 w p g fr.st) {x:Value} {a:AV} (hx:RepV w p g (used fr.st) x a) {k:Ret α} {r:α} (hk:doLoad E fr i a k=some r) :
  ∃ v fp,k v fr.st fp=some r∧GoodR w p g fr.st v ((Instr.loadAt t x).run P w):=by
 unfold doLoad at hk
 split at hk
 ·rename_i b off
  obtain ⟨hu,β,hg,rfl⟩:=hx.ptr
  have hb:=h.blk b
  split at hk
  ·rename_i cs hst
   rw [hst] at hb
   obtain ⟨β',c,e,h1,h2,h3,h4,h5⟩:=hb
   have:β'=β:=by rw [h1] at hg;cases hg;rfl
   subst this
   obtain ⟨v,hk',hg'⟩:=sim_loadCells (P:=P) hi h (β:=β') (off:=off) (h4.drop off) (fun j v hj=>by
    rw [cell_heap h3];simpa using hj) hk
   exact ⟨v,_,hk',by simpa [Instr.loadAt,Instr.sureAddr] using hg'⟩
  ·cases hk
 ·rename_i cs
  have hr:=hx.rptr
  cases hr with
  | rptr vs hcell hrep =>
   rename_i β off
   obtain ⟨v,hk',hg'⟩:=sim_loadCells (P:=P) hi h (β:=β) (off:=off) (vs:=(List.range cs.length).map vs) (cs:=cs) ⟨by simp,fun j v c hv hc=>by
     have hj:j<cs.length:=(List.getElem?_eq_some_iff.1 hc).1
     simp [hj] at hv
     subst hv
     exact .imm (hrep j c hc)⟩ (fun j v hj=>by
     have hj':j<cs.length:=by have:=(List.getElem?_eq_some_iff.1 hj).1;simpa using this
     simp [hj'] at hj
     subst hj
     exact (hcell j _ (List.getElem?_eq_getElem hj')).2) hk
   exact ⟨v,_,hk',by simpa [Instr.loadAt,Instr.sureAddr] using hg'⟩
 ·rename_i b off
  obtain ⟨hu,β,j,b',hg,rfl,hc⟩:=hx.pptr
  split at hk
  ·rename_i e hkd
   obtain ⟨hsz,hk2⟩:=chk_inv hk
   have hsz':=Zy hsz
   refine ⟨_,_,hk2,?_⟩
   have hagg:isAggK i.kind=false:=by rw [hkd];rfl
   have h1:=run_loadVar (P:=P) (w:=w) hi (β:=β) (off:=j) (vs:=[.pointer (some ⟨b',off,none⟩)]) (.inr ⟨hagg,by simp⟩) (fun q v hq=>by
    cases q with
    | zero=>simp at hq;subst hq;simpa using hc
    | succ q=>simp at hq)
   rcases h1 with h1 | h1
   ·rw [hagg] at h1
    exact GoodR.same (by simpa [Instr.loadAt,Instr.sureAddr] using h1) (RepC.v (.ptr hu hg))
   ·cases h1
  ·cases hk
 ·rename_i b j sz off
  obtain ⟨hu,β,hg,rfl⟩:=hx.eptr
  have hb:=h.blk b
  have key:∀ (l:List UInt8) (c:Array Value) (e:TypeId) (n:Nat),w.heap[β]? = some (.cells c e (0,0))→(c.toList.take n=l.map u8v)→chk (Nat.blt j l.length&&Nat.beq off 0&&Nat.beq sz 1 && !isAggK i.kind) (k (.u8 (l.getD j 0)) fr.st ⟨[b],[]⟩)=some r →
    ∃ v fp,k v fr.st fp=some r∧GoodR w p g fr.st v ((Instr.loadAt t (.pointer (some ⟨β,j*sz+off,none⟩))).run P w):=by
   intro l c e n hh hc hk2
   obtain ⟨hcond,hk3⟩:=chk_inv hk2
   simp only [Bool.and_eq_true,Bool.not_eq_true'] at hcond
   obtain ⟨⟨⟨hj,ho⟩,hs⟩,hagg⟩:=hcond
   have hlt:j<l.length:=Nat.le_of_ble_eq_true hj
   have ho':=Zy ho
   have hs':=Zy hs
   subst ho';subst hs'
   refine ⟨_,_,hk3,GoodR.same (v':=u8v (l.getD j 0)) ?_ (RepI.v .u8)⟩
   have hcell:w.cell? ⟨β,j,none⟩=some (u8v (l.getD j 0)):=by
    rw [cell_heap hh]
    have h1:(l.map u8v)[j]? = some (u8v (l.getD j 0)):=by simp [hlt]
    rw [← hc,List.getElem?_take] at h1
    split at h1
    ·simpa using h1
    ·cases h1
   obtain ⟨info,z,a1,a2,a3,a4,a5,a6,a7,a8,a9,_⟩:=mkTI_info hi
   simp [Instr.loadAt,Instr.sureAddr,loadVar,run_isAgg a8,hagg,hcell]
  split at hk
  ·rename_i e l pub hst
   rw [hst] at hb
   obtain ⟨⟨hlen,⟨hn,a,hv⟩ | ⟨β',cap,cur,hv,h0,hB,hh,hnc,hcm,hcs,htake⟩⟩,_⟩:=hb
   ·rw [hv] at hg;cases a<;>simp [vblk] at hg
   ·rw [hv] at hg
    have:β'=β:=by simp [vblk] at hg;exact hg.2
    subst this
    exact key l cur e _ hh htake hk
  ·rename_i l pub hst
   rw [hst] at hb
   obtain ⟨β',c,e,h1,h2,h3,h4,h5⟩:=hb
   rw [h1] at hg
   have:β'=β:=by simp [vblk] at hg;exact hg
   subst this
   exact key l c e c.size h3 (by rw [List.take_of_length_le (by simp)];exact h4) hk
  ·rename_i e z l pub hst
   rw [hst] at hb
   split at hk
   ·rename_i ei hei
    obtain ⟨hcond,hk2⟩:=chk_inv hk
    simp only [Bool.and_eq_true] at hcond
    have hlt:j<l.length:=Nat.le_of_ble_eq_true hcond.1
    have hz:=Zy hcond.2
    subst hz
    have hk3:=norm_inv hk2
    obtain ⟨hz0,hsz,vs,⟨hlen,⟨hn,a,hv⟩ | ⟨β',cap,cur,hv,h0,hB,hh,hnc,hcm,hcs,htake⟩⟩,hcells,hp⟩:=hb
    ·omega
    ·rw [hv] at hg
     have:β'=β:=by simp [vblk] at hg;exact hg.2
     subst this
     have hel:l[j]? = some (l.getD j .undef):=by simp [hlt]
     have hce:=cells_el (hcells.imp fun _ _ hh=>RepC.imm (g:=g) (u:=used fr.st) hh) hsz hel off
     obtain ⟨v,hk',hg'⟩:=sim_loadCells (P:=P) hi h (β:=β') (off:=j*z+off) hce (fun q v hq=>by
      rw [List.getElem?_take] at hq
      split at hq
      ·rw [List.getElem?_drop,← htake,List.getElem?_take] at hq
       split at hq
       ·rw [cell_heap hh];simpa using hq
       ·cases hq
      ·cases hq) hk3
     exact ⟨v,_,hk',by simpa [Instr.loadAt,Instr.sureAddr] using hg'⟩
   ·cases hk
  ·cases hk
 ·cases hk
theorem sim_doLoad {α:Type} {E:Env} (hty:∀ t i,E.ty t=some i→mkTI P t=some i) {fr:Fr} {t:Nat} {i:TI} (hi:mkTI P t=some i) (h:SInv B M w0 p0 w p g fr.st) {x:Value} {a:AV} (hx:RepV w p g (used fr.st) x a) {k:Ret α} {r:α} (hk:doLoad E fr i a k=some r) :
  ∃ v fp,k v fr.st fp=some r∧Good B M w0 p0 w p g fr.st v fr.st ((Instr.loadAt t x).run P w):=by
 obtain ⟨v,fp,h1,h2⟩:=sim_doLoadR hty hi h hx hk
 exact ⟨v,fp,h1,h2.good h⟩
end
end Go.Abs
/- Operations on numbers, truth values and strings; stores. -/
namespace Go.Abs
set_option linter.unusedVariables false
section
variable {P:Program} {B:Nat} {M:Nat→Prop} {w0:World} {p0:Prot} {w:World} {p:Prot} {g:Nat→Value} {u:Nat→Prop}
theorem intsOf_inv {α:Type} {x y:Value} {a b:AV} (hx:RepV w p g u x a) (hy:RepV w p g u y b) {k:IntKind→Int→Int→Option α} {r:α} (h:intsOf a b k=some r) :
  ∃ kd n m,x = .int kd n∧y = .int kd m∧k kd n m=some r∧(kd = .u8→(0≤n∧n<256)∧(0≤m∧m<256)):=by
 unfold intsOf at h
 split at h
 ·rename_i k1 n k2 m
  obtain ⟨rfl,h1⟩:=hx.int
  obtain ⟨rfl,h2⟩:=hy.int
  cases he:(k1==k2) with
  | false=>simp [he] at h
  | true =>
   simp [he] at h
   have:k1=k2:=by simpa using he
   subst this
   exact ⟨k1,n,m,rfl,rfl,h,fun e=>absurd e h1⟩
 ·rename_i n m
  have e1:=hx.u8
  have e2:=hy.u8
  subst e1;subst e2
  refine ⟨.u8,n.toNat,m.toNat,rfl,rfl,h,fun _=> ?_⟩
  have:=n.toNat_lt;have:=m.toNat_lt
  omega
 ·cases h
theorem run_bin_ints (op:BinOp) (t:TypeId) (k:IntKind) (n m:Int) (h1:op ≠ .shl) (h2:op ≠ .shr) :
  binOp op t (.int k n) (.int k m)=(match op with
  | .add | .sub | .mul=>Op.intArith op k n m
  | .quo | .rem=>Op.intDiv op k n m
  | .and | .or | .xor | .andNot=>Op.intBits op k n m
  | _=>Op.intCmp op n m):=by
 cases op<;>first | exact absurd rfl h1 | exact absurd rfl h2 | simp [binOp]
theorem tmod_u8 {n m:Int} (hn:0≤n∧n<256):0≤n.tmod m∧n.tmod m<256:=by
 have h1:0≤n.tmod m:=Int.tmod_nonneg m hn.1
 have h2:=Int.natAbs_tmod n m
 have h3:=Nat.mod_le n.natAbs m.natAbs
 omega
theorem shift_inv {y:Value} {b:AV} (hy:RepV w p g u y b) {m:Int} (h:shiftAmt b=some m):∃ k,y = .int k m:=by
 unfold shiftAmt at h
 split at h
 ·cases h;exact ⟨_,hy.int.1⟩
 ·cases h;exact ⟨_,hy.u8⟩
 ·cases h
theorem idx_inv {y:Value} {b:AV} (hy:RepV w p g u y b) {m:Int} (h:idx b=some m):∃ k,y = .int k m:=by
 unfold idx at h
 split at h
 ·cases h;exact ⟨_,hy.int.1⟩
 ·cases h;exact ⟨_,hy.u8⟩
 ·cases h
theorem fdiv_u8 {n:Int} {j:Nat} (hn:0≤n∧n<256):0≤n.fdiv (2 ^ j)∧n.fdiv (2 ^ j)<256:=by
 have hp:(0:Int)<2 ^ j:=Int.pow_pos (by decide)
 rw [Int.fdiv_eq_ediv_of_nonneg _ (Int.le_of_lt hp)]
 have h1:=Int.ediv_nonneg hn.1 (Int.le_of_lt hp)
 have h2:=Int.ediv_le_self (2 ^ j) hn.1
 omega
theorem cellEq_inv {x y:Value} {a b:AV} (hx:RepV w p g u x a) (hy:RepV w p g u y b) {c:Bool} (h:cellEq a b=some c) :
  (∃ k n m,x = .int k n∧y = .int k m∧c=(n==m))∨(∃ s t,x = .bool s∧y = .bool t∧c=(s==t))∨(∃ s t:ByteArray,x = .string s∧y = .string t∧c=(s.data.toList==t.data.toList)):=by
 unfold cellEq at h
 split at h
 ·rename_i k1 n k2 m
  obtain ⟨rfl,_⟩:=hx.int
  obtain ⟨rfl,_⟩:=hy.int
  cases he:(k1==k2) with
  | false=>simp [he] at h
  | true =>
   simp [he] at h
   have:k1=k2:=by simpa using he
   subst this
   exact .inl ⟨_,_,_,rfl,rfl,h.symm⟩
 ·rename_i n m
  have e1:=hx.u8
  have e2:=hy.u8
  subst e1;subst e2
  cases h
  refine .inl ⟨_,_,_,rfl,rfl,?_⟩
  rw [Bool.eq_iff_iff]
  simp
  constructor
  ·rintro rfl;rfl
  ·intro h;exact UInt8.toNat.inj (by omega)
 ·have e1:=hx.bool
  have e2:=hy.bool
  subst e1;subst e2
  cases h
  exact .inr (.inl ⟨_,_,rfl,rfl,rfl⟩)
 ·obtain ⟨s,rfl,hs⟩:=hx.str
  obtain ⟨t,rfl,ht⟩:=hy.str
  cases h
  exact .inr (.inr ⟨s,t,rfl,rfl,by rw [hs,ht]⟩)
 ·cases h
theorem run_cell_eq {t:TypeId} {x y:Value} {a b:AV} (hx:RepV w p g u x a) (hy:RepV w p g u y b) {c:Bool} (h:cellEq a b=some c) (hb:∀ s r,x = .bool s→y = .bool r→P.underlying t=some .bool) :
  (binOp .eql t x y).run P w = .ok (.bool c) w∧(binOp .neq t x y).run P w = .ok (.bool !c) w:=by
 rcases cellEq_inv hx hy h with ⟨k,n,m,rfl,rfl,rfl⟩ | ⟨s,r,rfl,rfl,rfl⟩ | ⟨s,r,rfl,rfl,rfl⟩
 ·constructor<;>simp [binOp,Op.intCmp,bne]
 ·have:=hb s r rfl rfl
  have he:∀ d,(Op.equalIn (d+1) t (.bool s) (.bool r)).run P w = .ok (s==r) w:=fun d=>by simp [Op.equalIn,run_underlying this]
  constructor<;>(simp only [binOp];simp [Op.equal,Op.maxDepth,he 9999])
 ·constructor<;>simp [binOp,Op.stringOp,Lib.toList_data]
theorem eqGuard_cell {op:BinOp} {t:TypeId} {x y:Operand} {v v':Value} (h:∀ arr,v ≠ .agg arr) (h':v ≠ .nilIface):(eqGuard op t x y v v').run P w = .ok () w:=by
 cases op<;>first | rfl | (cases v<;>first | rfl | exact absurd rfl (h _) | exact absurd rfl h')
theorem repV_notAgg {v:Value} {a:AV} (h:RepV w p g u v a) (hc:a.isCell=true):(∀ arr,v ≠ .agg arr)∧v ≠ .nilIface:=by
 rcases h with rfl | (h | ⟨arr,cs,rfl,rfl,h⟩) | ⟨arr,cs,rfl,rfl,h⟩
 ·simp [Zz] at hc
 ·cases h with
  | imm h=>cases h<;>simp [u8v]
  | ptr=>simp
  | eptr=>simp
  | row hu hs=>obtain ⟨a,l,c,e⟩:=hs;rw [e];simp
  | psl=>simp
  | pptr=>simp
  | pre=>simp
  | suf=>simp
  | clo=>simp
 ·simp [Zz] at hc
 ·simp [Zz] at hc
theorem sim_bin {op:BinOp} {t:TypeId} {x y:Value} {a b v:AV} (hx:RepV w p g u x a) (hy:RepV w p g u y b) (h:doBin op a b=some v) (ha:a.isCell=true)
  (hb:∀ s r,x = .bool s→y = .bool r→P.underlying t=some .bool):∃ v',(binOp op t x y).run P w = .ok v' w∧RepI w p v' v:=by
 unfold doBin at h
 split at h
 ·-- shl
  split at h
  ·rename_i k n m hm
   obtain ⟨rfl,hk⟩:=hx.int
   obtain ⟨k',rfl⟩:=shift_inv hy hm
   cases h0:decide (0≤m) with
   | false=>simp [h0,chk] at h
   | true =>
    simp [h0,chk] at h
    subst h
    have:¬ m<0:=by simp at h0;omega
    exact ⟨_,by simp [binOp,Op.shift,this],.int hk⟩
  ·rename_i n m hm
   have e:=hx.u8;subst e
   obtain ⟨k',rfl⟩:=shift_inv hy hm
   cases h0:decide (0≤m) with
   | false=>simp [h0,chk] at h
   | true =>
    simp [h0,chk] at h
    subst h
    have:¬ m<0:=by simp at h0;omega
    refine ⟨_,?_,repI_mkInt fun _=>wrap_u8 _⟩
    simp [u8v,binOp,Op.shift,this,IntKind.bits]
  ·cases h
 ·-- shr
  split at h
  ·rename_i k n m hm
   obtain ⟨rfl,hk⟩:=hx.int
   obtain ⟨k',rfl⟩:=shift_inv hy hm
   cases h0:decide (0≤m) with
   | false=>simp [h0,chk] at h
   | true =>
    simp [h0,chk] at h
    subst h
    have:¬ m<0:=by simp at h0;omega
    exact ⟨_,by simp [binOp,Op.shift,this],.int hk⟩
  ·rename_i n m hm
   have e:=hx.u8;subst e
   obtain ⟨k',rfl⟩:=shift_inv hy hm
   cases h0:decide (0≤m) with
   | false=>simp [h0,chk] at h
   | true =>
    simp [h0,chk] at h
    subst h
    have:¬ m<0:=by simp at h0;omega
    have hn:=n.toNat_lt
    refine ⟨_,?_,repI_mkInt fun _=>fdiv_u8 ⟨by omega,by omega⟩⟩
    simp [u8v,binOp,Op.shift,this,IntKind.bits]
  ·cases h
 ·-- add
  split at h
  ·rename_i s s'
   obtain ⟨s,rfl,rfl⟩:=hx.str
   obtain ⟨s',rfl,rfl⟩:=hy.str
   cases h0:decide (s.data.toList.length+s'.data.toList.length≤4611686018427387904) with
   | false=>rw [h0] at h;cases h
   | true =>
    simp only [h0,chk,cond_true,Option.some.injEq] at h
    subst h
    have hle:s.size+s'.size≤4611686018427387904:=by simpa using of_decide_eq_true h0
    have:¬ ((s.size+s'.size:Nat):Int)>IntKind.i64.max:=by simp [IntKind.max,IntKind.signed,IntKind.bits];omega
    refine ⟨.string (s++s'),?_,.str (by simp)⟩
    simp only [binOp,Op.stringOp,this,if_false]
    rfl
  ·obtain ⟨k,n,m,rfl,rfl,hk,hr⟩:=intsOf_inv hx hy h
   cases hk
   exact ⟨_,by rw [run_bin_ints _ _ _ _ _ (by simp) (by simp)];simp [Op.intArith],repI_mkInt fun e=>by subst e;exact wrap_u8 _⟩
 ·obtain ⟨k,n,m,rfl,rfl,hk,hr⟩:=intsOf_inv hx hy h
  cases hk
  exact ⟨_,by rw [run_bin_ints _ _ _ _ _ (by simp) (by simp)];simp [Op.intArith],repI_mkInt fun e=>by subst e;exact wrap_u8 _⟩
 ·obtain ⟨k,n,m,rfl,rfl,hk,hr⟩:=intsOf_inv hx hy h
  cases hk
  exact ⟨_,by rw [run_bin_ints _ _ _ _ _ (by simp) (by simp)];simp [Op.intArith],repI_mkInt fun e=>by subst e;exact wrap_u8 _⟩
 ·-- quo
  obtain ⟨k,n,m,rfl,rfl,hk,hr⟩:=intsOf_inv hx hy h
  cases h0:(m==0) with
  | true=>simp [h0,chk] at hk
  | false =>
   simp [h0,chk] at hk
   subst hk
   have:m≠0:=by simpa using h0
   exact ⟨_,by rw [run_bin_ints _ _ _ _ _ (by simp) (by simp)];simp [Op.intDiv,this],repI_mkInt fun e=>by subst e;exact wrap_u8 _⟩
 ·-- rem
  obtain ⟨k,n,m,rfl,rfl,hk,hr⟩:=intsOf_inv hx hy h
  cases h0:(m==0) with
  | true=>simp [h0,chk] at hk
  | false =>
   simp [h0,chk] at hk
   subst hk
   have:m≠0:=by simpa using h0
   exact ⟨_,by rw [run_bin_ints _ _ _ _ _ (by simp) (by simp)];simp [Op.intDiv,this],repI_mkInt fun e=>by subst e;exact tmod_u8 (hr rfl).1⟩
 ·obtain ⟨k,n,m,rfl,rfl,hk,hr⟩:=intsOf_inv hx hy h
  cases hk
  exact ⟨_,by rw [run_bin_ints _ _ _ _ _ (by simp) (by simp)];rfl,repI_mkInt fun e=>by subst e;exact wrap_u8 _⟩
 ·obtain ⟨k,n,m,rfl,rfl,hk,hr⟩:=intsOf_inv hx hy h
  cases hk
  exact ⟨_,by rw [run_bin_ints _ _ _ _ _ (by simp) (by simp)];rfl,repI_mkInt fun e=>by subst e;exact wrap_u8 _⟩
 ·obtain ⟨k,n,m,rfl,rfl,hk,hr⟩:=intsOf_inv hx hy h
  cases hk
  exact ⟨_,by rw [run_bin_ints _ _ _ _ _ (by simp) (by simp)];rfl,repI_mkInt fun e=>by subst e;exact wrap_u8 _⟩
 ·-- lss
  split at h
  ·obtain ⟨s,rfl,rfl⟩:=hx.str
   obtain ⟨s',rfl,rfl⟩:=hy.str
   cases h
   exact ⟨_,by simp [binOp,Op.stringOp,Lib.toList_data],.bool⟩
  ·obtain ⟨k,n,m,rfl,rfl,hk,hr⟩:=intsOf_inv hx hy h
   cases hk
   exact ⟨_,by rw [run_bin_ints _ _ _ _ _ (by simp) (by simp)];rfl,.bool⟩
 ·split at h
  ·obtain ⟨s,rfl,rfl⟩:=hx.str
   obtain ⟨s',rfl,rfl⟩:=hy.str
   cases h
   exact ⟨.bool _,by simp only [binOp,Op.stringOp,Lib.toList_data];rfl,.bool⟩
  ·obtain ⟨k,n,m,rfl,rfl,hk,hr⟩:=intsOf_inv hx hy h
   cases hk
   exact ⟨_,by rw [run_bin_ints _ _ _ _ _ (by simp) (by simp)];rfl,.bool⟩
 ·-- gtr
  split at h
  ·obtain ⟨s,rfl,rfl⟩:=hx.str
   obtain ⟨s',rfl,rfl⟩:=hy.str
   cases h
   exact ⟨.bool _,by simp only [binOp,Op.stringOp,Lib.toList_data];rfl,.bool⟩
  ·obtain ⟨k,n,m,rfl,rfl,hk,hr⟩:=intsOf_inv hx hy h
   cases hk
   exact ⟨_,by rw [run_bin_ints _ _ _ _ _ (by simp) (by simp)];rfl,.bool⟩
 ·split at h
  ·obtain ⟨s,rfl,rfl⟩:=hx.str
   obtain ⟨s',rfl,rfl⟩:=hy.str
   cases h
   exact ⟨.bool _,by simp only [binOp,Op.stringOp,Lib.toList_data];rfl,.bool⟩
  ·obtain ⟨k,n,m,rfl,rfl,hk,hr⟩:=intsOf_inv hx hy h
   cases hk
   exact ⟨_,by rw [run_bin_ints _ _ _ _ _ (by simp) (by simp)];rfl,.bool⟩
 ·-- eql
  split at h
  ·simp [Zz] at ha
  ·cases hc:cellEq a b with
   | none=>simp [hc] at h
   | some c =>
    simp [hc] at h
    subst h
    exact ⟨_,(run_cell_eq hx hy hc hb).1,.bool⟩
 ·split at h
  ·simp [Zz] at ha
  ·cases hc:cellEq a b with
   | none=>simp [hc] at h
   | some c =>
    simp [hc] at h
    subst h
    exact ⟨_,(run_cell_eq hx hy hc hb).2,.bool⟩
 ·cases h
theorem sim_un {op:UnOp} {x:Value} {a v:AV} (hx:RepV w p g u x a) (h:doUn op a=some v):∃ v',(Op.unary op x).run P w = .ok v' w∧RepI w p v' v:=by
 unfold doUn at h
 split at h
 ·have e:=hx.bool;subst e;cases h
  exact ⟨_,rfl,.bool⟩
 ·obtain ⟨rfl,hk⟩:=hx.int
  cases h
  exact ⟨_,by simp [Op.unary,Op.intArith],.int hk⟩
 ·cases h
end
end Go.Abs
