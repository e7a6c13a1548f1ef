/- From a law's arguments, as a row of statements reads them, to the abstract interpreter's; and back. -/
import Derived.Test.YtmipfdjcnkljnaaAbsSpec
import Derived.WalkKit
import Derived.ProofKit
import Derived.OpenShut
import Derived.ShutString
import Derived.ChangeOld
import Derived.Below
import Derived.Carry
open Bool renaming and_eq_true→Zz
namespace Go.Abs
open Go.ChangeShapes Go.WideShapes Go.ChangeAt Go.RowKit
set_option linter.unusedVariables false
def pfull (w:World):Prot:=fun β=>match w.heap[β]? with
 | some (.cells c _ _)=>c.size
 | _=>0
theorem pfull_new (w:World):NewP w (pfull w):=fun β h=>by
 unfold pfull
 rw [Array.getElem?_eq_none h]
theorem pfull_lt {w:World} {a:Addr} {v:Value} (h:w.cell? a=some v):a.off<pfull w a.block∧a.spot=none:=by
 refine ⟨?_,World.cell?_spot h⟩
 unfold World.cell? at h
 unfold pfull
 split at h
 ·rename_i c t f hc
  rw [hc]
  split at h
  ·cases h
  ·simp only
   exact (Array.getElem?_eq_some_iff.1 h).1
 ·cases h
def wrapAV (k:TK) (cs:List AV):AV:=match isAggK k with
 | true => .agg cs
 | false=>cs.headD .undef
def ConfL (C:Nat→List AV→Prop):List (Nat×Nat)→List AV→Prop
 | [],l=>l=[]
 | f::fs,l=>∃ a b,l=a++b∧C f.2 a∧ConfL C fs b
def Conf (ty:Nat→Option TI):Nat→Nat→List AV→Prop
 | 0,_,_=>False
 | n+1,t,l=>∃ i,ty t=some i∧match i.kind with
  | .int k=>∃ m,l=[.int k m]∧(Lit.int k m).wf=true
  | .u8=>∃ b,l=[.u8 b]
  | .bool=>∃ b,l=[.bool b]
  | .str=>∃ s,l=[.str s]∧s.length≤maxLen
  | .slice _ true=>∃ s,l=[.bs s]∧s.length≤maxLen
  | .slice e false=>∃ ei els,ty e=some ei∧l=[.sl ei.size els]∧els.length≤maxLen∧∀ x∈els,∃ cs,Conf ty n e cs∧x=wrapAV ei.kind cs
  | .struct fs=>ConfL (Conf ty n) fs l
  | _=>False
def layout (ty:Nat→Option TI):List (Nat×Nat)→Nat→Nat→Bool
 | [],o,z=>o==z
 | f::fs,o,z=>f.1==o&&(match ty f.2 with | some i=>layout ty fs (o+i.size) z | none=>false)
def covers (ty:Nat→Option TI):Nat→Nat→Bool
 | 0,_=>false
 | n+1,t=>match ty t with
  | none=>false
  | some i=>match i.kind with
   | .int _=>true
   | .u8=>true
   | .bool=>true
   | .str=>true
   | .slice _ true=>true
   | .slice e false=>(match ty e with | some ei=>Nat.blt 0 ei.size&&(isAggK ei.kind||Nat.beq ei.size 1)&&covers ty n e | none=>false)
   | .struct fs=>layout ty fs 0 i.size&&fs.all fun f=>covers ty n f.2
   | _=>false
theorem mapM_get {α β:Type} {f:α→Option β}:∀ {l:List α} {r:List β},l.mapM f=some r→r.length=l.length∧∀ (i:Nat) (x:α),l[i]? = some x→∃ y,f x=some y∧r[i]? = some y
 | [],r,h=>by simp at h;subst h;exact ⟨rfl,fun i x hx=>by simp at hx⟩
 | a::l,r,h=>by
  rw [List.mapM_cons] at h
  cases ha:f a with
  | none=>simp [ha] at h
  | some b =>
   cases hl:l.mapM f with
   | none=>simp [ha,hl] at h
   | some bs =>
    simp [ha,hl] at h
    subst h
    obtain ⟨h1,h2⟩:=mapM_get hl
    refine ⟨by simp [h1],fun i x hx=> ?_⟩
    cases i with
    | zero=>simp at hx;subst hx;exact ⟨b,ha,rfl⟩
    | succ i=>simp at hx ⊢;exact h2 i x hx
section
variable {P:Program} {ty:Nat→Option TI} {w:World} {H:Type} {enc:TypeId×Value→H} {base:Nat} {spare:Nat→Bool} {held:Bool}
theorem kind_under {t:Nat} {i:TI} (h:mkTI P t=some i):match i.kind with
  | .int k=>P.underlying t=some (.int k)∧k ≠ .u8
  | .u8=>P.underlying t=some (.int .u8)
  | .bool=>P.underlying t=some .bool
  | .str=>P.underlying t=some .string
  | .slice e b=>P.underlying t=some (.slice e)∧b=isU8 P e
  | .struct fs=>∃ gs:Array Field,P.underlying t=some (.struct gs)∧fs=gs.toList.map fun f=>(f.offset,f.type)
  | _=>True:=by
 obtain ⟨info,z,h1,h2,h3,h4,h5,h6,h7,h8,h9,h10⟩:=mkTI_info h
 generalize i.kind=kd at h8
 unfold kindOf at h8
 split at h8
 ·cases h8;assumption
 ·rename_i k hne hu;cases h8;exact ⟨hu,fun e=>by subst e;exact hne rfl⟩
 ·cases h8;assumption
 ·cases h8;assumption
 ·cases h8;exact ⟨by assumption,rfl⟩
 ·cases h8;trivial
 ·cases h8;trivial
 ·rename_i gs hu
  split at h8
  ·cases h8;exact ⟨gs,hu,rfl⟩
  ·cases h8
 ·cases h8
theorem cellsOf_ti {t:Nat} {i:TI} (h:mkTI P t=some i):P.cellsOf t=i.size:=by
 obtain ⟨info,z,h1,h2,_⟩:=mkTI_info h
 simp [Program.cellsOf,h1,h2]
theorem u8_of_int {n:Int} (h:(Lit.int .u8 n).wf=true):∃ b:UInt8,n=b.toNat:=by
 simp [Lit.wf,IntKind.min,IntKind.max,IntKind.signed,IntKind.bits] at h
 refine ⟨UInt8.ofNat n.toNat,?_⟩
 have:n.toNat<256:=by omega
 rw [UInt8.toNat_ofNat_of_lt' this]
 omega
theorem trod_int {fuel t:Nat} {cs:List Value} {d:DataW H} {ps:List MemPlace} (h:DataW.trod enc P w base spare held (fuel+1) t cs=some (d,ps)) {k:IntKind} (hu:P.underlying t=some (.int k)):∃ n,cs=[.int k n]∧(Lit.int k n).wf=true:=by
 rcases cs with _ | ⟨c,_ | ⟨c2,r⟩⟩
 ·simp [DataW.trod,hu] at h
 ·cases c<;>simp [DataW.trod,hu] at h
  rename_i k' n
  obtain ⟨⟨rfl,h1⟩,h2⟩:=h
  exact ⟨n,rfl,h1⟩
 ·cases c<;>simp [DataW.trod,hu] at h
theorem trod_bool {fuel t:Nat} {cs:List Value} {d:DataW H} {ps:List MemPlace} (h:DataW.trod enc P w base spare held (fuel+1) t cs=some (d,ps)) (hu:P.underlying t=some .bool):∃ b,cs=[.bool b]:=by
 rcases cs with _ | ⟨c,_ | ⟨c2,r⟩⟩
 ·simp [DataW.trod,hu] at h
 ·cases c<;>simp [DataW.trod,hu] at h
  exact ⟨_,rfl⟩
 ·cases c<;>simp [DataW.trod,hu] at h
theorem trod_str {fuel t:Nat} {cs:List Value} {d:DataW H} {ps:List MemPlace} (h:DataW.trod enc P w base spare held (fuel+1) t cs=some (d,ps)) (hu:P.underlying t=some .string):∃ s:ByteArray,cs=[.string s]∧s.size≤maxLen:=by
 rcases cs with _ | ⟨c,_ | ⟨c2,r⟩⟩
 ·simp [DataW.trod,hu] at h
 ·cases c<;>simp [DataW.trod,hu] at h
  exact ⟨_,rfl,h.1⟩
 ·cases c<;>simp [DataW.trod,hu] at h
theorem trod_slice {fuel t:Nat} {cs:List Value} {d:DataW H} {ps:List MemPlace} (h:DataW.trod enc P w base spare held (fuel+1) t cs=some (d,ps)) {e:TypeId} (hu:P.underlying t=some (.slice e)):cs=[.slice none 0 0]∨∃ (a:Addr) (len cap:Nat),cs=[.slice (some a) len cap]∧len≤cap∧cap≤maxLen ∧
  ∀ i,i<len→∃ vs x,w.cells? base (a.add (i*P.cellsOf e)) (P.cellsOf e)=some vs∧DataW.trod enc P w base spare held fuel e vs=some x:=by
 rcases cs with _ | ⟨c,_ | ⟨c2,r⟩⟩
 ·simp [DataW.trod,hu] at h
 ·cases c<;>try (simp [DataW.trod,hu] at h;done)
  rename_i a len cap
  cases a with
  | none =>
   cases len with
   | succ len=>simp [DataW.trod,hu] at h
   | zero =>
    cases cap with
    | succ cap=>simp [DataW.trod,hu] at h
    | zero=>exact .inl rfl
  | some a =>
   right
   simp only [DataW.trod,hu] at h
   split at h
   ·rename_i hb
    refine ⟨a,len,cap,rfl,hb.2.1,hb.2.2,fun i hi=> ?_⟩
    obtain ⟨elems,he,_⟩:=Option.bind_eq_some_iff.1 h
    obtain ⟨_,h2⟩:=mapM_get he
    obtain ⟨y,hy,_⟩:=h2 i i (by simp [hi])
    obtain ⟨vs,hv,hx⟩:=Option.bind_eq_some_iff.1 hy
    exact ⟨vs,y,hv,hx⟩
   ·cases h
 ·cases c<;>simp [DataW.trod,hu] at h
theorem trod_struct {fuel t:Nat} {cs:List Value} {d:DataW H} {ps:List MemPlace} (h:DataW.trod enc P w base spare held (fuel+1) t cs=some (d,ps)) {gs:Array Field} (hu:P.underlying t=some (.struct gs)):cs.length=P.cellsOf t ∧
  ∀ f∈gs.toList,∃ x,DataW.trod enc P w base spare held fuel f.type ((cs.drop f.offset).take (P.cellsOf f.type))=some x:=by
 have h':(if cs.length=P.cellsOf t then (gs.toList.mapM fun f=>DataW.trod enc P w base spare held fuel f.type ((cs.drop f.offset).take (P.cellsOf f.type))).map fun xs=>(DataW.agg (xs.map (·.1)),xs.flatMap (·.2)) else none)=some (d,ps):=by
  rw [← h];simp only [DataW.trod,hu]
 split at h'
 ·rename_i hl
  refine ⟨hl,fun f hf=> ?_⟩
  cases hm:gs.toList.mapM fun f=>DataW.trod enc P w base spare held fuel f.type ((cs.drop f.offset).take (P.cellsOf f.type)) with
  | none=>rw [hm] at h';cases h'
  | some xs =>
   obtain ⟨i,hi⟩:=List.getElem?_of_mem hf
   obtain ⟨y,hy,_⟩:=(mapM_get hm).2 i f hi
   exact ⟨y,hy⟩
 ·cases h'
theorem cells_get {base:Nat} {a:Addr} {n:Nat} {vs:List Value} (h:w.cells? base a n=some vs):vs.length=n∧∀ (i:Nat) (v:Value),vs[i]? = some v→w.cell? (a.add i)=some v:=by
 unfold World.cells? at h
 split at h
 ·obtain ⟨h1,h2⟩:=mapM_get h
  refine ⟨by simpa using h1,fun i v hv=> ?_⟩
  have hi:i<n:=by
   have:=(List.getElem?_eq_some_iff.1 hv).1
   simp at h1;omega
  obtain ⟨y,e1,e2⟩:=h2 i i (by simp [hi])
  rw [e2] at hv;cases hv;exact e1
 ·cases h
theorem add_none (b o j:Nat):(⟨b,o,none⟩:Addr).add j=⟨b,o+j,none⟩:=by
 unfold Addr.add
 split<;>simp_all
theorem Conf.length (hty:∀ t i,ty t=some i→mkTI P t=some i) {n t:Nat} {l:List AV} {i:TI} (hi:ty t=some i) {cs:List Value} (hc:Cells (RepI w (pfull w)) cs l) (hl:cs.length=P.cellsOf t):l.length=i.size:=by
 rw [← hc.len,hl,cellsOf_ti (hty t i hi)]
theorem wrap_cells {k:TK} {l:List AV} {sz:Nat} (hl:l.length=sz) (h:isAggK k=true∨(sz=1∧∀ x∈l,x.isCell=true)):(wrapAV k l).cells=l:=by
 unfold wrapAV
 cases hk:isAggK k with
 | true=>rfl
 | false =>
  rw [hk] at h
  rcases h with h | ⟨h1,h2⟩
  ·cases h
  ·rw [h1] at hl
   obtain ⟨x,rfl⟩:=List.length_eq_one_iff.1 hl
   have:=h2 x (by simp)
   cases x<;>first | rfl | (simp [AV.isCell] at this)
theorem RepI.isCell {p:Prot} {v:Value} {a:AV} (h:RepI w p v a):a.isCell=true:=by cases h<;>rfl
theorem Cells.isCell {p:Prot} {vs:List Value} {l:List AV} (h:Cells (RepI w p) vs l):∀ x∈l,x.isCell=true:=fun x hx=>by
 obtain ⟨i,hi⟩:=List.getElem?_of_mem hx
 obtain ⟨v,_,hr⟩:=h.get hi
 exact hr.isCell
theorem trod_conf (hty:∀ t i,ty t=some i→mkTI P t=some i):∀ (fuel n t:Nat) (cs:List Value) (d:DataW H) (ps:List MemPlace),DataW.trod enc P w base spare held fuel t cs=some (d,ps)→covers ty n t=true →
  ∃ l,Cells (RepI w (pfull w)) cs l∧Conf ty n t l:=by
 intro fuel
 induction fuel with
 | zero=>intro n t cs d ps h;simp [DataW.trod] at h
 | succ fuel ih =>
  intro n t cs d ps h hc
  cases n with
  | zero=>simp [covers] at hc
  | succ n =>
   simp only [covers] at hc
   cases hi:ty t with
   | none=>rw [hi] at hc;cases hc
   | some i =>
    rw [hi] at hc
    simp only at hc
    have hti:=hty t i hi
    have hu:=kind_under hti
    simp only [Conf]
    cases hk:i.kind with
    | int k =>
     rw [hk] at hu
     obtain ⟨m,rfl,hw⟩:=trod_int h hu.1
     refine ⟨[.int k m],Cells.cons (.int hu.2) Cells.nil,i,hi,?_⟩
     rw [hk];exact ⟨m,rfl,hw⟩
    | u8 =>
     rw [hk] at hu
     obtain ⟨m,rfl,hw⟩:=trod_int h hu
     obtain ⟨b,rfl⟩:=u8_of_int hw
     refine ⟨[.u8 b],Cells.cons .u8 Cells.nil,i,hi,?_⟩
     rw [hk];exact ⟨b,rfl⟩
    | bool =>
     rw [hk] at hu
     obtain ⟨b,rfl⟩:=trod_bool h hu
     refine ⟨[.bool b],Cells.cons .bool Cells.nil,i,hi,?_⟩
     rw [hk];exact ⟨b,rfl⟩
    | str =>
     rw [hk] at hu
     obtain ⟨s,rfl,hs⟩:=trod_str h hu
     refine ⟨[.str s.data.toList],Cells.cons (.str rfl) Cells.nil,i,hi,?_⟩
     rw [hk];exact ⟨_,rfl,by simpa using hs⟩
    | slice e b =>
     rw [hk] at hu
     obtain ⟨hu1,hu2⟩:=hu
     cases b with
     | true =>
      have hsz:P.cellsOf e=1∧P.underlying e=some (.int .u8):=by
       have hb:=hu2.symm
       unfold isU8 at hb
       split at hb
       ·rename_i info h1 h2
        simp only [Zz,beq_iff_eq] at hb
        exact ⟨by simp [Program.cellsOf,h2,hb.1.1],h1⟩
       ·cases hb
      rcases trod_slice h hu1 with rfl | ⟨a,len,cap,rfl,hl,hm,hel⟩
      ·refine ⟨[.bs []],Cells.cons (.bs 0 0 rfl (Nat.le_refl _) (.inl rfl) fun i b hb=>by simp at hb) Cells.nil,i,hi,?_⟩
       rw [hk];exact ⟨[],rfl,by simp⟩
      ·have hat:∀ j,j<len→∃ b:UInt8,w.cell? (a.add j)=some (u8v b):=fun j hj=>by
        obtain ⟨vs,x,h1,h2⟩:=hel j hj
        rw [hsz.1,Nat.mul_one] at h1
        cases fuel with
        | zero=>simp [DataW.trod] at h2
        | succ fuel =>
         obtain ⟨m,rfl,hw⟩:=trod_int (d:=x.1) (ps:=x.2) h2 hsz.2
         obtain ⟨b,rfl⟩:=u8_of_int hw
         have:=(cells_get h1).2 0 _ rfl
         exact ⟨b,by simpa [Addr.add,u8v] using this⟩
       rcases Nat.eq_zero_or_pos len with hz | hz
       ·subst hz
        refine ⟨[.bs []],Cells.cons (.bs 0 0 rfl hl (.inl rfl) fun i b hb=>by simp at hb) Cells.nil,i,hi,?_⟩
        rw [hk];exact ⟨[],rfl,by simp⟩
       obtain ⟨bl,off,sp⟩:=a
       obtain rfl:sp=none:=by
        obtain ⟨b,hb⟩:=hat 0 hz
        have:=(pfull_lt hb).2
        simpa [Addr.add] using this
       let bs:List UInt8:=(List.range len).map fun j=>if hj:j<len then Classical.choose (hat j hj) else 0
       have hbs:∀ j b,bs[j]? = some b→j<len∧w.cell? ((⟨bl,off,none⟩:Addr).add j)=some (u8v b):=fun j b hb=>by
        simp only [bs,List.getElem?_map] at hb
        have hj:j<len:=by
         rcases Nat.lt_or_ge j len with h | h
         ·exact h
         ·rw [List.getElem?_eq_none (by simpa using h)] at hb;cases hb
        rw [List.getElem?_range hj] at hb
        simp only [Option.map_some,hj,dif_pos,Option.some.injEq] at hb
        subst hb
        exact ⟨hj,Classical.choose_spec (hat j hj)⟩
       have hlen:bs.length=len:=by simp [bs]
       refine ⟨[.bs bs],Cells.cons (.bs bl off hlen hl (.inr rfl) fun j b hb=> ?_) Cells.nil,i,hi,?_⟩
       ·obtain ⟨hj,hcell⟩:=hbs j b hb
        rw [add_none] at hcell
        exact ⟨(pfull_lt hcell).1,hcell⟩
       ·rw [hk];exact ⟨bs,rfl,by rw [hlen];omega⟩
     | false =>
      rw [hk] at hc
      simp only at hc
      cases hei:ty e with
      | none=>rw [hei] at hc;cases hc
      | some ei =>
       rw [hei] at hc
       simp only [Zz,Bool.or_eq_true] at hc
       obtain ⟨⟨h0,hag⟩,hcov⟩:=hc
       have h0':0<ei.size:=by simpa using h0
       have hsz:=cellsOf_ti (hty e ei hei)
       rcases trod_slice h hu1 with rfl | ⟨a,len,cap,rfl,hl,hm,hel⟩
       ·refine ⟨[.sl ei.size []],Cells.cons (.sl 0 0 (fun _=>undef) rfl (Nat.le_refl _) (fun e he=>by cases he) (.inl rfl) (fun j c hj=>by simp at hj) fun j c hj=>by simp at hj) Cells.nil,i,hi,?_⟩
        rw [hk];exact ⟨ei,[],hei,rfl,by simp,fun x hx=>by cases hx⟩
       ·rcases Nat.eq_zero_or_pos len with hz | hz
        ·subst hz
         refine ⟨[.sl ei.size []],Cells.cons (.sl 0 0 (fun _=>undef) rfl hl (fun e he=>by cases he) (.inl rfl) (fun j c hj=>by simp at hj) fun j c hj=>by simp at hj) Cells.nil,i,hi,?_⟩
         rw [hk];exact ⟨ei,[],hei,rfl,by simp,fun x hx=>by cases hx⟩
        obtain ⟨bl,off,sp⟩:=a
        obtain rfl:sp=none:=by
         obtain ⟨vs,x,h1,_⟩:=hel 0 hz
         rw [hsz,Nat.zero_mul] at h1
         obtain ⟨g1,g2⟩:=cells_get h1
         have:=(pfull_lt (g2 0 vs[0] (List.getElem?_eq_getElem (by omega)))).2
         simpa [Addr.add] using this
        simp only [add_none] at hel
        have hat:∀ j,j<len→∃ (vs:List Value) (l:List AV),vs.length=ei.size∧(∀ (i:Nat) (v:Value),vs[i]? = some v→w.cell? ⟨bl,off+(j*ei.size+i),none⟩=some v)∧Cells (RepI w (pfull w)) vs l∧Conf ty n e l∧(wrapAV ei.kind l).cells=l:=fun j hj=>by
         obtain ⟨vs,x,h1,h2⟩:=hel j hj
         rw [hsz] at h1
         obtain ⟨l,r1,r2⟩:=ih n e vs x.1 x.2 h2 hcov
         obtain ⟨g1,g2⟩:=cells_get h1
         refine ⟨vs,l,g1,fun i v hv=> ?_,r1,r2,wrap_cells (r1.len.symm.trans g1) ?_⟩
         ·have:=g2 i v hv
          rw [add_none,Nat.add_assoc] at this
          exact this
         ·rcases hag with hag | hag
          ·exact .inl hag
          ·exact .inr ⟨Nat.eq_of_beq_eq_true hag,r1.isCell⟩
        let els:List AV:=(List.range len).map fun j=>if hj:j<len then wrapAV ei.kind (Classical.choose (Classical.choose_spec (hat j hj))) else .undef
        have hels:∀ j x,els[j]? = some x→∃ (vs:List Value) (l:List AV),j<len∧x=wrapAV ei.kind l∧vs.length=ei.size∧(∀ (i:Nat) (v:Value),vs[i]? = some v→w.cell? ⟨bl,off+(j*ei.size+i),none⟩=some v)∧Cells (RepI w (pfull w)) vs l∧Conf ty n e l∧x.cells=l:=fun j x hx=>by
         simp only [els,List.getElem?_map] at hx
         have hj:j<len:=by
          rcases Nat.lt_or_ge j len with h | h
          ·exact h
          ·rw [List.getElem?_eq_none (by simpa using h)] at hx;cases hx
         rw [List.getElem?_range hj] at hx
         simp only [Option.map_some,hj,dif_pos,Option.some.injEq] at hx
         subst hx
         obtain ⟨s1,s2,s3,s4,s5⟩:=Classical.choose_spec (Classical.choose_spec (hat j hj))
         exact ⟨_,_,hj,rfl,s1,s2,s3,s4,s5⟩
        have hlen:els.length=len:=by simp [els]
        have hsz2:∀ x∈els,x.cells.length=ei.size:=fun x hx=>by
         obtain ⟨j,hj⟩:=List.getElem?_of_mem hx
         obtain ⟨vs,l,_,_,h3,_,h5,_,h7⟩:=hels j x hj
         rw [h7,← h5.len,h3]
        have hcell:∀ j c,(els.flatMap AV.cells)[j]? = some c→∃ v,w.cell? ⟨bl,off+j,none⟩=some v∧RepI w (pfull w) v c:=fun j c hj=>by
         have hjl:j<els.length*ei.size:=by
          have:=(List.getElem?_eq_some_iff.1 hj).1
          rwa [flat_length hsz2] at this
         have hq:j / ei.size<els.length:=(Nat.div_lt_iff_lt_mul h0').2 hjl
         obtain ⟨vs,l,_,_,h3,h4,h5,_,h7⟩:=hels (j / ei.size) els[j / ei.size] (List.getElem?_eq_getElem hq)
         have hr:j % ei.size<ei.size:=Nat.mod_lt _ h0'
         have hget:els[j / ei.size].cells[j % ei.size]? = some (els[j / ei.size].cells[j % ei.size]'(by rw [hsz2 _ (List.getElem_mem hq)];exact hr)):=List.getElem?_eq_getElem _
         have hfg:=flat_get hsz2 (List.getElem?_eq_getElem hq) hget
         rw [Nat.mul_comm,Nat.div_add_mod,hj] at hfg
         have hc2:=Option.some.inj hfg
         rw [← hc2] at hget
         rw [h7] at hget
         obtain ⟨v,hv,hrep⟩:=h5.get hget
         have:=h4 _ v hv
         rw [Nat.mul_comm,Nat.div_add_mod] at this
         exact ⟨v,this,hrep⟩
        let vsf:Nat→Value:=fun j=>(w.cell? ⟨bl,off+j,none⟩).getD undef
        have hvsf:∀ j c,(els.flatMap AV.cells)[j]? = some c→w.cell? ⟨bl,off+j,none⟩=some (vsf j)∧RepI w (pfull w) (vsf j) c:=fun j c hj=>by
         obtain ⟨v,h1,h2⟩:=hcell j c hj
         simp only [vsf,h1,Option.getD_some]
         exact ⟨trivial,h2⟩
        refine ⟨[.sl ei.size els],Cells.cons (.sl bl off vsf hlen hl hsz2 (.inr rfl) (fun j c hj=>⟨(pfull_lt (hvsf j c hj).1).1,(hvsf j c hj).1⟩) fun j c hj=>(hvsf j c hj).2) Cells.nil,i,hi,?_⟩
        ·rw [hk]
         refine ⟨ei,els,hei,rfl,by rw [hlen];omega,fun x hx=> ?_⟩
         obtain ⟨j,hj⟩:=List.getElem?_of_mem hx
         obtain ⟨vs,l,_,h2,_,_,_,h6,_⟩:=hels j x hj
         exact ⟨l,h6,h2⟩
    | struct fs =>
     rw [hk] at hu hc
     obtain ⟨gs,hu1,hu2⟩:=hu
     simp only [Zz,List.all_eq_true] at hc
     obtain ⟨hlen,hf⟩:=trod_struct h hu1
     rw [cellsOf_ti hti] at hlen
     have key:∀ (gl:List Field) (o:Nat),layout ty (gl.map fun f=>(f.offset,f.type)) o i.size=true→(∀ f∈gl,f∈gs.toList)→(∀ f∈gl,covers ty n f.type=true)→o≤cs.length →
       ∃ l,Cells (RepI w (pfull w)) (cs.drop o) l∧ConfL (Conf ty n) (gl.map fun f=>(f.offset,f.type)) l:=by
      intro gl
      induction gl with
      | nil =>
       intro o hlay _ _ _
       simp only [List.map_nil,layout,beq_iff_eq] at hlay
       refine ⟨[],?_,rfl⟩
       rw [List.drop_eq_nil_of_le (by omega)]
       exact Cells.nil
      | cons f gl ihg =>
       intro o hlay hmem hcov ho
       simp only [List.map_cons,layout,Zz,beq_iff_eq] at hlay
       obtain ⟨hoff,hlay⟩:=hlay
       cases hfi:ty f.type with
       | none=>rw [hfi] at hlay;cases hlay
       | some fi =>
        rw [hfi] at hlay
        obtain ⟨x,hx⟩:=hf f (hmem f (by simp))
        obtain ⟨l1,r1,r2⟩:=ih n f.type _ x.1 x.2 hx (hcov f (by simp))
        have hfs:=cellsOf_ti (hty f.type fi hfi)
        rw [hoff,hfs] at r1
        have hbound:o+fi.size≤cs.length:=by
         have hb:∀ (gl:List (Nat×Nat)) (o:Nat),layout ty gl o i.size=true→o≤i.size:=by
          intro gl
          induction gl with
          | nil=>intro o h;simp [layout] at h;omega
          | cons g gl ihg =>
           intro o h
           simp only [layout,Zz] at h
           obtain ⟨_,h⟩:=h
           split at h
           ·have:=ihg _ h;omega
           ·cases h
         have:=hb _ _ hlay
         omega
        obtain ⟨l2,s1,s2⟩:=ihg (o+fi.size) hlay (fun g hg=>hmem g (by simp [hg])) (fun g hg=>hcov g (by simp [hg])) hbound
        refine ⟨l1++l2,?_,l1,l2,rfl,r2,s2⟩
        have:=r1.append s1
        rw [← List.drop_drop,List.take_append_drop] at this
        exact this
     obtain ⟨l,r1,r2⟩:=key gs.toList 0 (by rw [← hu2];exact hc.1) (fun f hf=>hf) (fun f hfm=>hc.2 (f.offset,f.type) (by rw [hu2];exact List.mem_map.2 ⟨f,hfm,rfl⟩)) (Nat.zero_le _)
     rw [List.drop_zero] at r1
     refine ⟨l,r1,i,hi,?_⟩
     rw [hk,hu2];exact r2
    | arr a b c=>rw [hk] at hc;cases hc
    | ptr e=>rw [hk] at hc;cases hc
    | other=>rw [hk] at hc;cases hc
end
end Go.Abs
/- A law of the program: what is left of its row once the interpreter says true. -/
namespace Go.Abs
open Go.ChangeShapes Go.WideShapes Go.ChangeAt Go.RowKit
set_option linter.unusedVariables false
def ConfArgs (ty:Nat→Option TI):List Nat→List AV→Prop
 | [],l=>l=[]
 | t::ts,l=>∃ i cs r,ty t=some i∧Conf ty 20 t cs∧l=wrapAV i.kind cs::r∧ConfArgs ty ts r
section
variable {ty:Nat→Option TI} {n t:Nat} {i:TI} {l:List AV}
theorem Conf.bool (hi:ty t=some i) (hk:i.kind = .bool) (h:Conf ty (n+1) t l):∃ b,l=[.bool b]:=by
 obtain ⟨i',h1,h2⟩:=h
 rw [hi] at h1;cases h1;rw [hk] at h2;exact h2
theorem Conf.u8 (hi:ty t=some i) (hk:i.kind = .u8) (h:Conf ty (n+1) t l):∃ b,l=[.u8 b]:=by
 obtain ⟨i',h1,h2⟩:=h
 rw [hi] at h1;cases h1;rw [hk] at h2;exact h2
theorem Conf.int {k:IntKind} (hi:ty t=some i) (hk:i.kind = .int k) (h:Conf ty (n+1) t l):∃ m,l=[.int k m]∧(Lit.int k m).wf=true:=by
 obtain ⟨i',h1,h2⟩:=h
 rw [hi] at h1;cases h1;rw [hk] at h2;exact h2
theorem Conf.str (hi:ty t=some i) (hk:i.kind = .str) (h:Conf ty (n+1) t l):∃ s,l=[.str s]∧s.length≤maxLen:=by
 obtain ⟨i',h1,h2⟩:=h
 rw [hi] at h1;cases h1;rw [hk] at h2;exact h2
theorem Conf.bs {e:Nat} (hi:ty t=some i) (hk:i.kind = .slice e true) (h:Conf ty (n+1) t l):∃ s,l=[.bs s]∧s.length≤maxLen:=by
 obtain ⟨i',h1,h2⟩:=h
 rw [hi] at h1;cases h1;rw [hk] at h2;exact h2
theorem Conf.sl {e:Nat} (hi:ty t=some i) (hk:i.kind = .slice e false) (h:Conf ty (n+1) t l):∃ ei els,ty e=some ei∧l=[.sl ei.size els]∧els.length≤maxLen∧∀ x∈els,∃ cs,Conf ty n e cs∧x=wrapAV ei.kind cs:=by
 obtain ⟨i',h1,h2⟩:=h
 rw [hi] at h1;cases h1;rw [hk] at h2;exact h2
theorem Conf.struct {fs:List (Nat×Nat)} (hi:ty t=some i) (hk:i.kind = .struct fs) (h:Conf ty (n+1) t l):ConfL (Conf ty n) fs l:=by
 obtain ⟨i',h1,h2⟩:=h
 rw [hi] at h1;cases h1;rw [hk] at h2;exact h2
end
section
variable {P:Program} {ty:Nat→Option TI} {w:World} {H:Type} {enc:TypeId×Value→H}
theorem trod_arg (hty:∀ t i,ty t=some i→mkTI P t=some i) {t:Nat} {v:Value} {d:DataW H} {ps:List MemPlace} {base:Nat} (h:DataW.Trod enc P w 0 (fun _=>true) true t v d ps) (hc:covers ty 20 t=true) (hok:Value.okWide P w .any base t v) :
    ∃ i cs,ty t=some i∧Conf ty 20 t cs∧RepO w (pfull w) v (wrapAV i.kind cs):=by
  obtain ⟨fuel,h⟩:=h
  obtain ⟨l,h1,h2⟩:=trod_conf hty fuel 20 t _ d ps h hc
  have h2':=h2
  obtain ⟨i,hi,hk⟩:=h2'
  have hu:=kind_under (hty t i hi)
  refine ⟨i,l,hi,h2,?_⟩
  have single:(∀ arr,v ≠ .agg arr)→(∀ x,v.cells.toList=[x]→x=v)→isAggK i.kind=false→(∃ a,l=[a])→RepO w (pfull w) v (wrapAV i.kind l):=by
    intro _ hx hag ⟨a,ha⟩
    subst ha
    obtain ⟨x,vs,e,hr,hvs⟩:=h1.uncons
    have hn:=hvs.nil_iff
    subst hn
    have:=hx x e
    subst this
    left
    unfold wrapAV
    rw [hag]
    exact hr
  cases hkd:i.kind with
  | struct fs =>
    rw [hkd] at hu
    obtain ⟨gs,hu1,_⟩:=hu
    unfold Value.okWide at hok
    rw [hu1] at hok
    obtain ⟨arr,rfl,_⟩:=hok
    right
    exact ⟨arr,l,rfl,rfl,by simpa [Value.cells] using h1⟩
  | arr a b c=>rw [hkd] at hk;cases hk
  | ptr e=>rw [hkd] at hk;cases hk
  | other=>rw [hkd] at hk;cases hk
  | _ =>
    rw [← hkd]
    have hna:∀ arr,v ≠ .agg arr:=by
      rintro arr rfl
      rw [hkd] at hu
      simp only at hu
      first
        | (rw [Value.okWide,hu.1] at hok;simp [Cell.okWide,hu.1,Cell.ok] at hok;done)
        | (rw [Value.okWide,hu] at hok;simp [Cell.okWide,hu,Cell.ok] at hok;done)
    refine single hna ?_ (by rw [hkd];rfl) ?_
    · intro x hx
      cases v<;>simp [Value.cells] at hx<;>first | exact hx.symm | exact absurd rfl (hna _)
    · rw [hkd] at hk
      first
        | (obtain ⟨m,rfl,_⟩:=hk;exact ⟨_,rfl⟩)
        | (obtain ⟨m,rfl⟩:=hk;exact ⟨_,rfl⟩)
        | (rename_i e b;cases b
           · obtain ⟨_,_,_,rfl,_⟩:=hk;exact ⟨_,rfl⟩
           · obtain ⟨m,rfl,_⟩:=hk;exact ⟨_,rfl⟩)
theorem trod_args (hty:∀ t i,ty t=some i→mkTI P t=some i) {base:Nat}:∀ {ts:List TypeId} {vs:List Value} {ds:List (DataW H)} {ps:List MemPlace},DataW.TrodAll enc P w 0 (fun _=>true) true ts vs ds ps→(∀ t∈ts,covers ty 20 t=true) →
  (∀ (j:Nat) t v,ts[j]? = some t→vs[j]? = some v→Value.okWide P w .any base t v) →
  ∃ l,ConfArgs ty ts l∧vs.length=l.length∧ds.length=ts.length∧∀ (j:Nat) (v:Value) (a:AV),vs[j]? = some v→l[j]? = some a→RepO w (pfull w) v a
 | [],vs,ds,ps,h,_,_=>by
  cases vs<;>cases ds<;>simp [DataW.TrodAll] at h
  exact ⟨[],rfl,rfl,rfl,fun j v a hv=>by simp at hv⟩
 | t::ts,vs,ds,ps,h,hc,hok=>by
  obtain ⟨v,vs',d,ds',p,q,rfl,rfl,rfl,h1,h2⟩:=trodAll_cons h
  obtain ⟨i,cs,hi,hcf,hr⟩:=trod_arg hty h1 (hc t (by simp)) (hok 0 t v rfl rfl)
  obtain ⟨l,g1,g2,g3,g4⟩:=trod_args hty h2 (fun t ht=>hc t (by simp [ht])) fun j t v ht hv=>hok (j+1) t v (by simpa using ht) (by simpa using hv)
  refine ⟨wrapAV i.kind cs::l,⟨i,cs,l,hi,hcf,rfl,g1⟩,by simp [g2],by simp [g3],fun j v' a hv ha=> ?_⟩
  cases j with
  | zero=>simp at hv ha;subst hv;subst ha;exact hr
  | succ j=>simp at hv ha;exact g4 j v' a hv ha
theorem trod_back {W W':World} (hl:laidOutB P=true) (hb:Below W.heap.size W W'):∀ {ts:List TypeId} {vs:List Value} {ds:List (DataW H)} {ps:List MemPlace},DataW.TrodAll enc P W 0 (fun _=>true) true ts vs ds ps→(∀ t∈ts,P.readableRec t=true∧t<P.types.size) →
  ∃ pa,DataW.TrodAll enc P W' 0 (fun b=>decide (b<W.heap.size)) true ts vs ds pa
 | [],vs,ds,ps,h,_=>by
  cases vs<;>cases ds<;>simp [DataW.TrodAll] at h
  exact ⟨[],rfl⟩
 | t::ts,vs,ds,ps,h,hr=>by
  obtain ⟨v,vs',d,ds',p,q,rfl,rfl,rfl,h1,h2⟩:=trodAll_cons h
  have lt:∀ x∈p,x.block<W.heap.size:=by obtain ⟨m,hm⟩:=h1;exact DataW.trod_lt m _ _ _ hm
  obtain ⟨pa,h3⟩:=trod_back hl hb h2 fun t ht=>hr t (by simp [ht])
  exact ⟨_,trodAll_cons_mk (Below.trod hl (hr t (by simp)).1 (hr t (by simp)).2 h1 hb lt) h3⟩
theorem law_calls {G:Cfg2} (hP:TabOK P G) {f k:Nat} {args:Array Value} {l:List AV} {W:World} (hg:GlobOK ⟨G.ty,fun _=>[],G.own,callOf G.tab k,G.glob,[],0,fun _=>none⟩ W (pfull W)) (hr:∀ (j:Nat) (v:Value) (a:AV),args[j]? = some v→l[j]? = some a→RepO W (pfull W) v a) (hlen:args.size=l.length)
  {rt:Nat} (hrts:G.rts f=some [rt]) (hcall:callOf G.tab k f l []=some (.bool true,[])) (hent:∀ vs (w:World),(callFunc f vs).run P w = .ok (.enter f vs) w) :
  Calls P f args W fun e W'=>e = .returned (.bool true)∧Below W.heap.size W W':=by
 have h:=(tab_ok hP k 0 (fun _=>[]) [] 0).call f l [] _ _ _ hcall hrts W (pfull W) args (fun _=>0) (pfull_new W) hg hlen (fun j v a hv ha => .inl (hr j v a hv ha)) ⟨fun j cs h=>(by cases h),(by simp),fun j j' cs cs' h=>(by cases h)⟩
 have fin:∀ (v:Value) (w':World),(∃ p',Kept (fun β=>∃ j cs,(j,cs)∈([]:List (Nat×List AV))∧(fun _=>0) j=β) W (pfull W) w' p'∧ResRep ⟨G.ty,fun _=>[],G.own,callOf G.tab k,G.glob,[],0,fun _=>none⟩ W.heap.size w' p' [rt] v (.bool true)∧BlksOut w' p' (fun _=>0) [] [])→v = .bool true∧Below W.heap.size W w':=by
  rintro v w' ⟨p',hk,hres,_⟩
  refine ⟨?_,hk.os,hk.tape,hk.output,hk.size,fun β hβ=>hk.block β hβ fun ⟨j,cs,hm,_⟩=>by cases hm⟩
  simp only [ResRep,Res1] at hres
  rcases hres with h | ⟨_,_,_,_,_,h,_⟩ | ⟨_,_,_,_,_,_,_,_,h,_⟩ | ⟨_,_,_,_,_,_,_,_,_,_,_,_,_,_,h,_⟩
  ·rcases h with h | ⟨_,_,_,h,_⟩
   ·cases h;rfl
   ·cases h
  ·cases h
  ·cases h
  ·cases h
 rcases h with ⟨_,hc⟩ | ⟨v,w',hrun,_⟩
 ·refine hc.mono ?_
  rintro e w' ⟨v,rfl,hv⟩
  obtain ⟨h1,h2⟩:=fin v w' hv
  exact ⟨by rw [h1],h2⟩
 ·rw [hent] at hrun;cases hrun
end
theorem law_contract_at {C : Checked} {G : Cfg2} (hP : TabOK C.prog G) (hl : laidOutB C.prog = true) {f k : Nat} {fn : Func} {rt : Nat} (hf : C.prog.funcs[f]? = some fn) (hname : fn.name ≠ "runtime.NumGoroutine") (hbody : fn.body.isSome = true)
  (hres:fn.resultTypes.toList=[rt]) (hrt:C.prog.underlying rt=some .bool) (hrts:G.rts f=some [rt])
  (hcov:∀ t∈fn.params.toList,covers G.ty 20 t=true∧C.prog.readableRec t=true∧t<C.prog.types.size)
  {s:ChangeSpec} (hsv:s.vars=[]) (hsf:∀ (H:Type) (ds:List (DataW H)),ds.length=fn.params.toList.length→s.fn H ds=⟨[.lit (.bool true)],ds,[]⟩)
  (hlaw:∀ l,ConfArgs G.ty fn.params.toList l→callOf G.tab k f l []=some (.bool true,[]))
  {H:Type} {enc:TypeId×Value→H} {conds:List PathCond} {a:Assume} :
  ∀ (W:World) (base:Nat) (args:Array Value) (ds gs:List (DataW H)) (before:List MemPlace),GlobOK ⟨G.ty,fun _=>[],G.own,callOf G.tab k,G.glob,[],0,fun _=>none⟩ W (pfull W) →
   (∀ (j:Nat) t v,fn.params[j]? = some t→args[j]? = some v→Value.okWide C.prog W .any base t v) →
   DataW.Whole enc C.prog fn.params.toList s.vars false W args.toList ds gs before →
   conds.all (PathCond.test C.prog ⟨fn.params.toList,ds,s.plain.varTypes C.prog,gs⟩)=true →
   a.holds C.prog (lone (Frame.enter C.prog f args .normal) [] W) →
   Calls C.prog f args W fun e W'=>∃ v,e = .returned v∧s.post enc C.prog fn false true false false W args v W':=by
 intro W base args ds gs before hg hval hW _ _
 have hW':=hW
 obtain ⟨p,q,hA,hV,rfl,hfz,hnd⟩:=hW
 rw [hsv] at hV
 obtain ⟨rfl,rfl⟩:=trodVars_none hV
 obtain ⟨l,h1,h2,h3,h4⟩:=trod_args hP.ty (base:=base) hA (fun t ht=>(hcov t ht).1) fun j t v ht hv=>hval j t v (by simpa using ht) (by simpa using hv)
 have hent:∀ vs (w:World),(callFunc f vs).run C.prog w = .ok (.enter f vs) w:=fun vs w=>by
  obtain ⟨c,hc⟩:=Option.isSome_iff_exists.1 hbody
  simp [callFunc,hf,hname,hc]
 refine (law_calls hP hg (fun j v a hv ha=>h4 j v a (by simpa using hv) ha) (by simpa using h2) hrts (hlaw l h1) hent).mono fun e W' ⟨he,bel⟩=> ?_
 subst he
 obtain ⟨pa,h5⟩:=trod_back hl bel hA fun t ht=>(hcov t ht).2
 have e1:s.fn H (ds++[])=⟨[.lit (.bool true)],ds,[]⟩:=by rw [List.append_nil];exact hsf H ds h3
 refine ⟨_,rfl,ds,[],_,[],pa,[],hW',?_,?_,?_,bel.frame _,fun h=>by cases h⟩
 ·rw [e1,hres]
  have hsz:fn.resultTypes.size=1:=by have:=congrArg List.length hres;simpa using this
  rw [hsz]
  exact trodAll_mk1 (shut_bool hrt _)
 ·rw [e1];exact h5
 ·rw [e1,hsv];rfl
theorem law_contract {C : Checked} {G : Cfg2} (hP : TabOK C.prog G) (hg : G.glob = fun _ => none) (hl : laidOutB C.prog = true) {f k : Nat} {fn : Func} {rt : Nat} (hf : C.prog.funcs[f]? = some fn) (hname : fn.name ≠ "runtime.NumGoroutine") (hbody : fn.body.isSome = true)
  (hres:fn.resultTypes.toList=[rt]) (hrt:C.prog.underlying rt=some .bool) (hrts:G.rts f=some [rt])
  (hcov:∀ t∈fn.params.toList,covers G.ty 20 t=true∧C.prog.readableRec t=true∧t<C.prog.types.size)
  {s:ChangeSpec} (hsv:s.vars=[]) (hsf:∀ (H:Type) (ds:List (DataW H)),ds.length=fn.params.toList.length→s.fn H ds=⟨[.lit (.bool true)],ds,[]⟩)
  (hlaw:∀ l,ConfArgs G.ty fn.params.toList l→callOf G.tab k f l []=some (.bool true,[]))
  {H:Type} {enc:TypeId×Value→H} {conds:List PathCond} {a:Assume} :
  ∀ (W:World) (base:Nat) (args:Array Value) (ds gs:List (DataW H)) (before:List MemPlace),
   (∀ (j:Nat) t v,fn.params[j]? = some t→args[j]? = some v→Value.okWide C.prog W .any base t v) →
   DataW.Whole enc C.prog fn.params.toList s.vars false W args.toList ds gs before →
   conds.all (PathCond.test C.prog ⟨fn.params.toList,ds,s.plain.varTypes C.prog,gs⟩)=true →
   a.holds C.prog (lone (Frame.enter C.prog f args .normal) [] W) →
   Calls C.prog f args W fun e W'=>∃ v,e = .returned v∧s.post enc C.prog fn false true false false W args v W':=by
 intro W base args ds gs before
 exact law_contract_at hP hl hf hname hbody hres hrt hrts hcov hsv hsf hlaw (conds:=conds) (a:=a) W base args ds gs before (fun q cs hq=>by simp [hg] at hq)
end Go.Abs
