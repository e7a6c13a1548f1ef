/- Functions, whole; programs. -/
import Derived.Test.YtaikjfcgemjghaaGreatAbsFn
namespace Go.Abs
set_option linter.unusedVariables false
section
variable {P:Program} {E:Env} {rts:Nat→Option (List Nat)}
theorem find_entry:∀ {blks:List (Nat×List AV)} {k:Nat} {x:Nat×List AV},blks.find? (fun x=>Nat.beq x.1 k)=some x→x∈blks∧x.1=k:=by
 intro blks k x h
 exact ⟨List.mem_of_find?_eq_some h,Nat.eq_of_beq_eq_true (by have:=List.find?_some h;simpa using this)⟩
theorem entry_used {args:List AV} {blks:List (Nat×List AV)} {j:Nat} (hm:j∈blks.map (·.1)):used (entry 0 args blks).st j:=by
 obtain ⟨⟨j',cs⟩,hm',rfl⟩:=List.mem_map.1 hm
 unfold used
 simp only [entry]
 cases hfd:blks.find? (fun x=>Nat.beq x.1 j') with
 | none =>
  have:=List.find?_eq_none.1 hfd (j',cs) hm'
  simp at this
 | some y=>simp
theorem entry_ok {n:Nat} {w:World} {p:Prot} {bk:Nat→Nat} {vals:Array Value} {args:List AV} {blks:List (Nat×List AV)} (hn:NewP w p) (hG:GlobOK E w p) (hsz:vals.size=args.length) (hle:args.length≤n)
  (ha:∀ (i:Nat) (v:Value) (a:AV),vals[i]? = some v→args[i]? = some a→ArgRep w p bk blks v a) (hb:BlksIn w p bk blks) :
  Inv n w.heap.size (fun β=>∃ j cs,(j,cs)∈blks∧bk j=β) w p w p (fun k => .pointer (some ⟨bk k,0,none⟩)) { tmps:=vals++Array.replicate (n-vals.size) undef,defers:=[] } (entry 0 args blks):=by
 have hst:∀ k,(entry 0 args blks).st k = .free∨∃ cs,(k,cs)∈blks∧(entry 0 args blks).st k = .cells cs:=by
  intro k
  simp only [entry]
  cases hf:blks.find? (fun x=>Nat.beq x.1 k) with
  | none=>exact .inl rfl
  | some x =>
   obtain ⟨h1,h2⟩:=find_entry hf
   obtain ⟨j,cs⟩:=x
   simp only at h2
   subst h2
   exact .inr ⟨cs,h1,rfl⟩
 refine ⟨⟨rfl,rfl,rfl,Nat.le_refl _,fun _ _ _=>rfl,fun k=> ?_,fun k k' β hne hl hl' hv hv'=> ?_,hn,fun _ _=>rfl⟩,rfl,by simp [hsz];omega,fun t=> ?_⟩
 ·rcases hst k with h | ⟨cs,hm,h⟩
  ·rw [h];trivial
  ·rw [h]
   obtain ⟨c,e,h1,h2,h3⟩:=hb.each k cs hm
   exact ⟨bk k,c,e,rfl,.inl ⟨k,cs,hm,rfl⟩,h1,h2.imp fun _ _ => .imm,h3⟩
 ·rcases hst k with h | ⟨cs,hm,h⟩
  ·rw [h] at hl;exact hl
  ·rcases hst k' with h' | ⟨cs',hm',h'⟩
   ·rw [h'] at hl';exact hl'
   ·simp only [vblk,Option.some.injEq] at hv hv'
    exact hne (hb.inj k k' cs cs' hm hm' (hv.trans hv'.symm))
 ·simp only [entry]
  cases hat:args[t]? with
  | none=>exact .inl rfl
  | some x =>
   have hlt:t<vals.size:=by rw [hsz];exact (List.getElem?_eq_some_iff.1 hat).1
   have hv:vals[t]? = some vals[t]:=by simp [hlt]
   have hget:(vals++Array.replicate (n-vals.size) undef).getD t undef=vals[t]:=by
    rw [Array.getD_eq_getD_getElem?,Array.getElem?_append_left hlt,hv];rfl
   simp only [Option.getD_some]
   rw [hget]
   rcases ha t _ x hv hat with h | ⟨j,cs,hm,rfl,h⟩
   ·exact h.v
   ·rw [h]
    refine RepC.v (.ptr ?_ rfl)
    show used (entry 0 args blks).st j
    exact entry_used (List.mem_map.2 ⟨_,hm,rfl⟩)
theorem sim_runFn (hty : ∀ t i, E.ty t = some i → mkTI P t = some i) (hC : ∀ H, CallOK P { E with hand := H } rts) (hD : ∀ H, DrawOK P { E with hand := H } rts) {f : FuncId} {fn : Func} (hf : P.funcs[f]? = some fn) (hname : fn.name ≠ "runtime.NumGoroutine") {own : Bool} {args : List AV} {blks : List (Nat × List AV)} {r : AV} {bs : Blocks}
  (hk:runFn E rts own fn args blks=some (r,bs)) {w:World} {p:Prot} {vals:Array Value} {bk:Nat→Nat} (hn:NewP w p) (hG:GlobOK E w p) (hsz:vals.size=args.length)
  (ha:∀ (i:Nat) (v:Value) (a:AV),vals[i]? = some v→args[i]? = some a→ArgRep w p bk blks v a) (hb:BlksIn w p bk blks) :
  CallsX P f vals w fun v w'=>∃ p',Kept (fun β=>∃ j cs,(j,cs)∈blks∧bk j=β) w p w' p'∧ResRep E w.heap.size w' p' fn.resultTypes.toList v r∧BlksOut w' p' bk blks bs:=by
 unfold runFn runFnH at hk
 split at hk
 ·cases hk
 ·rename_i c hbody
  obtain ⟨hle,hk1⟩:=chk_inv hk
  have hle':args.length≤fn.ntmps:=Nat.le_of_ble_eq_true hle
  refine .inl ⟨?_,?_⟩
  ·simp [callFunc,hf,hname,hbody]
  ·refine calls_of_wp hf hbody (sim_exec (E:={ E with hand:=blks.map (·.1) }) (g0:=fun k => .pointer (some ⟨bk k,0,none⟩)) hty (hC _) (hD _) c ⟨p,_,entry_ok hn hG hsz hle' ha hb,hG,fun k hk=>⟨entry_used hk,rfl⟩⟩ hk1 _ fun e fr hk2 a' w' hok=> ?_)
   obtain ⟨p1,g1,hi,hG1,hH1⟩:=hok
   have hgk:(∀ j cs,(j,cs)∈blks→g1 j = .pointer (some ⟨bk j,0,none⟩)):=fun j cs hm=>(hH1 j (List.mem_map.2 ⟨_,hm,rfl⟩)).2
   have key:(resAll E fr.slots fn.results.toList fn.resultTypes.toList fr.st [] own fun vs st L=>outBlks E blks fn.params.toList st L fun bs=>match vs with | [v]=>some (v,bs) | vs=>some (.tup vs,bs))=some (r,bs) →
     a'.defers=[]∧∃ v,(results fn a'.tmps).run P w' = .ok v w'∧∃ v',Ending.returned v = .returned v'∧∃ p',Kept (fun β=>∃ j cs,(j,cs)∈blks∧bk j=β) w p w' p'∧ResRep E w.heap.size w' p' fn.resultTypes.toList v' r∧BlksOut w' p' bk blks bs:=by
    intro hk3
    obtain ⟨xs,as,st1,L1,p2,h1,hk4,hs1,hl1,hxl,hal,hr0,hrj⟩:=sim_resAll hty hi.s hi.slots hk3
    obtain ⟨bs',st2,p3,hk5,hs2,hl2,hbo⟩:=sim_outBlks (bk:=bk) hs1 hgk hk4
    have hkept:Kept (fun β=>∃ j cs,(j,cs)∈blks∧bk j=β) w p w' p3:=⟨hs2.os,hs2.tape,hs2.output,hs2.size,hs2.old,hs2.oldp,hs2.newp⟩
    have hr0':∀ x a ty,xs[0]? = some x→as[0]? = some a→fn.resultTypes.toList[0]? = some ty→Res1 E w.heap.size w' p3 ty x a:=fun x a ty hx ha ht=>((hr0 x a ty hx ha ht).mono hl2.m.prot hl2.same hl2.lock).res1 hs2
    have hrj':∀ (j:Nat) x a,0<j→xs[j]? = some x→as[j]? = some a→RepO w' p3 x a:=fun j x a hj hx ha=>(hrj j x a (.inr hj) hx ha).mono hl2.m.prot fun _ _ _=>rfl
    refine ⟨hi.defers,_,run_results h1,_,rfl,p3,hkept,?_,?_⟩
    ·unfold ResRep
     split
     ·rename_i ty hrt
      rw [hrt] at hxl hal hr0'
      obtain ⟨x,rfl⟩:=List.length_eq_one_iff.1 hxl
      obtain ⟨y,rfl⟩:=List.length_eq_one_iff.1 hal
      cases hk5
      exact hr0' x _ ty rfl rfl rfl
     ·rename_i hne
      have hxs:∀ x,xs≠[x]:=fun x e=>by
       subst e
       obtain ⟨ty,hty1⟩:=List.length_eq_one_iff.1 hxl.symm
       exact hne ty hty1
      have has:∀ x,as≠[x]:=fun x e=>by
       subst e
       obtain ⟨ty,hty1⟩:=List.length_eq_one_iff.1 hal.symm
       exact hne ty hty1
      have e1:oneOrMore xs = .tuple xs.toArray:=by
       unfold oneOrMore
       split
       ·rename_i x;exact absurd rfl (hxs x)
       ·rfl
      have e2:(match as with | [v]=>some (v,bs') | vs=>some (AV.tup vs,bs'))=some (.tup as,bs'):=by
       split
       ·rename_i x;exact absurd rfl (has x)
       ·rfl
      rw [e2] at hk5
      cases hk5
      rw [e1]
      exact ⟨xs.toArray,as,rfl,rfl,by simpa using hxl,hal,fun x a ty hx ha ht=>hr0' x a ty (by simpa using hx) ha ht,fun j x a hj hx ha=>hrj' j x a hj (by simpa using hx) ha⟩
    ·have:bs'=bs:=by
      split at hk5<;>(cases hk5;rfl)
     rw [← this];exact hbo
   cases e with
   | normal=>exact key hk2
   | ret=>exact key hk2
   | exit j=>cases hk2
end
end Go.Abs
