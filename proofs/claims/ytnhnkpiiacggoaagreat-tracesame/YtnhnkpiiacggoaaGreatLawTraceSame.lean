/- Proved: the law 'TraceSame' returns true for every input, and each argument reads afterwards as it read before. Its conditions are those of the given row alone. -/
import Derived.Test.YtnhnkpiiacggoaaGreatTop
namespace Go.Proofs.YtnhnkpiiacggoaaGreat.traceSame
open Go Go.Abs Go.Proofs
open Go.ChangeShapes Go.WideShapes Go.ChangeAt Go.RowKit
set_option linter.unusedVariables false
set_option linter.unusedSimpArgs false
theorem law (l:List AV) (h:ConfArgs G.ty Tryz.f3.params.toList l):callOf G.tab 20 3 l []=some (.bool true,[]):=by
 obtain ⟨i0,q0,l0,hi0,hc0,rfl,h0⟩:=h
 rw [show G.ty 22=some ⟨1,24,.slice 5 true,[.nils],[.bsl],[]⟩ from by kernel_rfl] at hi0
 cases hi0
 obtain ⟨v1,rfl,wv1⟩:=Conf.bs (i:=⟨1,24,.slice 5 true,[.nils],[.bsl],[]⟩) (by kernel_rfl) rfl hc0
 obtain ⟨i1,q1,l1,hi1,hc1,rfl,h1⟩:=h0
 rw [show G.ty 22=some ⟨1,24,.slice 5 true,[.nils],[.bsl],[]⟩ from by kernel_rfl] at hi1
 cases hi1
 obtain ⟨v2,rfl,wv2⟩:=Conf.bs (i:=⟨1,24,.slice 5 true,[.nils],[.bsl],[]⟩) (by kernel_rfl) rfl hc1
 obtain ⟨i2,q2,l2,hi2,hc2,rfl,h2⟩:=h1
 rw [show G.ty 22=some ⟨1,24,.slice 5 true,[.nils],[.bsl],[]⟩ from by kernel_rfl] at hi2
 cases hi2
 obtain ⟨v3,rfl,wv3⟩:=Conf.bs (i:=⟨1,24,.slice 5 true,[.nils],[.bsl],[]⟩) (by kernel_rfl) rfl hc2
 obtain ⟨i3,q3,l3,hi3,hc3,rfl,h3⟩:=h2
 rw [show G.ty 22=some ⟨1,24,.slice 5 true,[.nils],[.bsl],[]⟩ from by kernel_rfl] at hi3
 cases hi3
 obtain ⟨v4,rfl,wv4⟩:=Conf.bs (i:=⟨1,24,.slice 5 true,[.nils],[.bsl],[]⟩) (by kernel_rfl) rfl hc3
 obtain ⟨i4,q4,l4,hi4,hc4,rfl,h4⟩:=h3
 rw [show G.ty 5=some ⟨1,1,.u8,[.u8 0],[.u8],[.u8]⟩ from by kernel_rfl] at hi4
 cases hi4
 obtain ⟨v5,rfl⟩:=Conf.u8 (i:=⟨1,1,.u8,[.u8 0],[.u8],[.u8]⟩) (by kernel_rfl) rfl hc4
 obtain ⟨i5,q5,l5,hi5,hc5,rfl,h5⟩:=h4
 rw [show G.ty 5=some ⟨1,1,.u8,[.u8 0],[.u8],[.u8]⟩ from by kernel_rfl] at hi5
 cases hi5
 obtain ⟨v6,rfl⟩:=Conf.u8 (i:=⟨1,1,.u8,[.u8 0],[.u8],[.u8]⟩) (by kernel_rfl) rfl hc5
 obtain ⟨i6,q6,l6,hi6,hc6,rfl,h6⟩:=h5
 rw [show G.ty 5=some ⟨1,1,.u8,[.u8 0],[.u8],[.u8]⟩ from by kernel_rfl] at hi6
 cases hi6
 obtain ⟨v7,rfl⟩:=Conf.u8 (i:=⟨1,1,.u8,[.u8 0],[.u8],[.u8]⟩) (by kernel_rfl) rfl hc6
 obtain ⟨i7,q7,l7,hi7,hc7,rfl,h7⟩:=h6
 rw [show G.ty 23=some ⟨1,2,.int .u16,[.int .u16 0],[.int .u16],[.int .u16]⟩ from by kernel_rfl] at hi7
 cases hi7
 obtain ⟨v8,rfl,wv8⟩:=Conf.int (i:=⟨1,2,.int .u16,[.int .u16 0],[.int .u16],[.int .u16]⟩) (by kernel_rfl) rfl hc7
 obtain rfl:=h7
 show callOf G.tab 20 3 [.bs v1,.bs v2,.bs v3,.bs v4,.u8 v5,.u8 v6,.u8 v7,.int .u16 v8] []=some (.bool true,[])
 have gv8:0≤v8∧v8≤65535:=by
  simpa [Lit.wf,IntKind.min,IntKind.max,IntKind.signed,IntKind.bits] using wv8
 refine Eq.trans (b:=chk (decide (0≤v8)&&decide (v8≤65535)) (some (.bool true,[]))) (by kernel_rfl) ?_
 have gv1:v1.length≤9223372036854775807:=wv1
 have gv2:v2.length≤9223372036854775807:=wv2
 have gv3:v3.length≤9223372036854775807:=wv3
 have gv4:v4.length≤9223372036854775807:=wv4
 rw [chk_of (by simp only [Bool.and_eq_true,decide_eq_true_eq,true_and,and_true];omega)]
set_option maxRecDepth 100000 in
theorem lifted (os:Os) (started:os.Started) (H:Type) (enc:TypeId×Value→H) :
  ReturnsInHanded {} Tryz.checked os 3 .any (Rows.traceSameSpec.pre6 enc Tryz.prog Tryz.f3 Rows.traceSameRow.domain false) (Rows.traceSameSpec.post enc Tryz.prog Tryz.f3 false true false false):=by
 refine returnsInHanded_of_change (C:=Tryz.checked) own started (by kernel_rfl) Tryz.func3
  (ChangeSpec.witness6 (enc:=enc) (C:=Tryz.checked) false ⟨#[],#[.slice none 0 0,.slice none 0 0,.slice none 0 0,.slice none 0 0,.int .u8 0,.int .u8 0,.int .u8 0,.int .u16 0],[]⟩ 8 (by kernel_rfl) (by kernel_rfl) (by kernel_rfl) (by kernel_rfl)) ?_
 exact law_contract (C:=Tryz.checked) (G:=G) (k:=20) (rt:=4) tab rfl laidOut Tryz.func3 (by decide +kernel) (by kernel_rfl) (by kernel_rfl) Tryz.underlying4 (by kernel_rfl)
  (by
   have hall:(Tryz.f3.params.toList.all fun t=>covers G.ty 20 t&&Tryz.prog.readableRec t&&decide (t<Tryz.prog.types.size))=true:=by kernel_rfl
   intro t ht
   have:=List.all_eq_true.1 hall t ht
   simp only [Bool.and_eq_true,decide_eq_true_eq] at this
   exact ⟨this.1.1,this.1.2,this.2⟩) rfl
  (by
   intro H ds hds
   have hlen:Tryz.f3.params.toList.length=ds.length:=hds.symm
   have h3:ds.length=8:=hds.trans (by kernel_rfl)
   exact (match ds,h3 with | [d0,d1,d2,d3,d4,d5,d6,d7],_=>rfl)) law
theorem and_t {a b:Bool} (h:a=true) (g:b=true):(a&&b)=true:=by rw [h,g];rfl
theorem j0:(Rows.traceSameRow.wf (OpenSpec.ofChange Rows.traceSameSpec)&&laidOutB Tryz.prog&&mapsRowed Tryz.prog&&Tryz.f3.params.all (Tryz.prog.readableRec ·)&&namedTie Tryz.prog Rows.traceSameRow.named Rows.traceSameSpec.vars&&(Rows.traceSameRow.stops==[])&&(Tryz.prog.stops==[])&&(Rows.traceSameRow.knobs==[])&&(Tryz.prog.stopKnobs==[]))=true:=by kernel_rfl
theorem j9:(Rows.traceSameRow.inPlace==Tryz.prog.inPlace 3)=true:=by kernel_rfl
theorem j10:(Rows.traceSameRow.unfollowed==Tryz.prog.unfollowed 3)=true:=by kernel_rfl
theorem j11:(Rows.traceSameRow.recurses==Tryz.prog.recurses 3)=true:=by kernel_rfl
theorem j12:(Rows.traceSameRow.named==Tryz.prog.varsNamed 3)=true:=by kernel_rfl
theorem j24:(Tryz.prog.stopsHeard)=true:=by kernel_rfl
theorem j25:(Tryz.prog.mayEnter)=true:=by kernel_rfl
theorem j26:(Rows.traceSameRow.lifted==Tryz.prog.liftsFinal)=true:=by kernel_rfl
theorem joined:joinedFacts Tryz.prog 3 Tryz.f3 Rows.traceSameSpec Rows.traceSameRow=true:=by
 unfold joinedFacts
 exact (and_t (and_t (and_t (and_t (and_t (and_t (and_t (and_t (and_t (and_t (and_t (and_t (and_t (and_t (and_t (and_t (and_t (and_t (and_t (and_t (and_t (and_t (and_t j0 j9) j10) j11) j12) (by kernel_rfl)) (by kernel_rfl)) (by kernel_rfl)) (by kernel_rfl)) (by kernel_rfl)) (by kernel_rfl)) (by kernel_rfl)) (by kernel_rfl)) (by kernel_rfl)) (by kernel_rfl)) (by kernel_rfl)) j24) j25) j26) (by kernel_rfl)) (by kernel_rfl)) (by kernel_rfl)) (by kernel_rfl)) (by kernel_rfl))
theorem over:Rows.traceSameRow.holds Tryz.pinned (OpenSpec.ofChange Rows.traceSameSpec) :=
 OpenClaim.holds_of_wide 3 Tryz.f3 rfl rfl rfl rfl rfl rfl rfl ⟨rfl,rfl,rfl,rfl,rfl⟩ rfl rfl rfl rfl rfl (by kernel_rfl) Tryz.func3 joined
  (of_decide_eq_true (by kernel_rfl)) (by unfold Func.isWrapper;first | (rw [if_pos (by decide +kernel)];kernel_rfl) | (rw [if_neg (by decide +kernel)];exact ⟨rfl,rfl⟩))
  (fun os started H enc _=>lifted os started H enc)
theorem proved:Rows.TraceSameSaid:=over
end Go.Proofs.YtnhnkpiiacggoaaGreat.traceSame
namespace Go.Proofs.YtnhnkpiiacggoaaGreat
/-- The statement. -/
theorem traceSame_holds:Rows.TraceSameSaid:=traceSame.proved
end Go.Proofs.YtnhnkpiiacggoaaGreat
