/- Package variables that the row lists: an array of texts. -/
import Derived.Test.YtmdppipjjnfanaaGreatDoorAbsLaw
import Derived.Lay
namespace Go.Abs
open Go
theorem glob_texts {P:Program} {w:World} {n:String} {g t e m:Nat} {ss:List (List UInt8)} (hg:P.globalNamed n=some g) (ht:(P.globals[g]?).map (·.type)=some t) (hu:P.underlying t=some (.array m e)) (hue:P.underlying e=some .string) (hce:P.cellsOf e=1)
  (h:laidMet P [(n,.agg (ss.map fun s => .lit (.string s)))] w):RepI w (pfull w) (.pointer (some ⟨g,0,none⟩)) (.rptr (ss.map .str)):=by
 obtain ⟨ps,hv,_,_⟩:=h
 obtain ⟨g',t',cs,fuel,p,q,h1,h2,h3,h4,_,_⟩:=hv
 rw [hg] at h1;cases h1
 rw [ht] at h2;cases h2
 have hheap:∃ a b,w.heap[g]? = some (.cells cs a b):=by
  unfold World.var? at h3
  rw [hg] at h3
  simp only [Option.bind_some] at h3
  split at h3
  ·rename_i hh;cases h3;exact ⟨_,_,hh⟩
  ·cases h3
 obtain ⟨ta,tb,hheap⟩:=hheap
 cases fuel with
 | zero=>simp [DataW.trod] at h4
 | succ fuel =>
  have h':(if cs.toList.length=P.cellsOf t then ((List.range m).mapM fun i=>DataW.trod (fun _=>()) P w 0 (fun _=>true) false fuel e ((cs.toList.drop (i*P.cellsOf e)).take (P.cellsOf e))).map fun xs=>(DataW.agg (xs.map (·.1)),xs.flatMap (·.2)) else none)=some (DataW.agg (ss.map fun s=>DataW.lit (.string s)),p):=by
   rw [← h4];simp only [DataW.trod,hu]
  split at h'
  ·cases hm:(List.range m).mapM fun i=>DataW.trod (fun _=>()) P w 0 (fun _=>true) false fuel e ((cs.toList.drop (i*P.cellsOf e)).take (P.cellsOf e)) with
   | none=>rw [hm] at h';cases h'
   | some xs =>
    rw [hm] at h'
    simp only [Option.map_some,Option.some.injEq,Prod.mk.injEq,DataW.agg.injEq] at h'
    obtain ⟨hx,_⟩:=h'
    obtain ⟨hlen,hget⟩:=mapM_get hm
    have hl2:xs.length=ss.length:=by have:=congrArg List.length hx;simpa using this
    have key:∀ (j:Nat) (s:List UInt8),ss[j]? = some s→∃ b:ByteArray,cs[j]? = some (.string b)∧b.data.toList=s:=by
     intro j s hj
     have hjm:j<m:=by
      have:=(List.getElem?_eq_some_iff.1 hj).1
      simp at hlen;omega
     obtain ⟨y,hy,hxj⟩:=hget j j (by simp [hjm])
     have hxs:(xs.map (·.1))[j]? = some y.1:=by rw [List.getElem?_map,hxj];rfl
     rw [hx,List.getElem?_map,hj] at hxs
     simp only [Option.map_some,Option.some.injEq] at hxs
     cases fuel with
     | zero=>simp [DataW.trod] at hy
     | succ fuel =>
      obtain ⟨yd,yp⟩:=y
      obtain ⟨b,hb,hbl⟩:=trod_str hy hue
      rw [hb] at hy
      simp only [DataW.trod,hue,hbl,if_true,Option.some.injEq,Prod.mk.injEq] at hy
      refine ⟨b,?_,?_⟩
      ·rw [hce,Nat.mul_one] at hb
       have:=congrArg (·[0]?) hb
       simp only [List.getElem?_take,List.getElem?_drop] at this
       simpa using this
      ·rw [← hy.1] at hxs
       simp only [DataW.lit.injEq,Lit.string.injEq] at hxs
       exact hxs.symm
    refine .rptr (fun j=>(cs[j]?).getD default) (fun j c hj=> ?_) (fun j c hj=> ?_)
    ·obtain ⟨s,hs,rfl⟩:=by rw [List.getElem?_map] at hj;exact Option.map_eq_some_iff.1 hj
     obtain ⟨b,hb,hbs⟩:=key j s hs
     have hlt:j<cs.size:=(Array.getElem?_eq_some_iff.1 hb).1
     refine ⟨?_,?_⟩
     ·unfold pfull;rw [hheap];simpa using hlt
     ·simp [World.cell?,hheap,hb]
    ·obtain ⟨s,hs,rfl⟩:=by rw [List.getElem?_map] at hj;exact Option.map_eq_some_iff.1 hj
     obtain ⟨b,hb,hbs⟩:=key j s hs
     rw [hb,Option.getD_some]
     exact .str hbs
  ·cases h'
end Go.Abs
