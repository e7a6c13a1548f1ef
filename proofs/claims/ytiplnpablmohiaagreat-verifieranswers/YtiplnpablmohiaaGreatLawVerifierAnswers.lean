/- Proved: the law 'VerifierAnswers' returns true for every input, and each argument reads afterwards as it read before. Its conditions are those of the given row alone. -/
import Derived.Test.YtiplnpablmohiaaGreatTop
namespace Go.Proofs.YtiplnpablmohiaaGreat.verifierAnswers
open Go Go.Abs Go.Proofs
open Go.ChangeShapes Go.WideShapes Go.ChangeAt Go.RowKit
set_option linter.unusedVariables false
set_option linter.unusedSimpArgs false
theorem law (l:List AV) (h:ConfArgs G.ty Tryz.f7.params.toList l):callOf G.tab 17 7 l []=some (.bool true,[]):=by
 obtain ⟨i0,q0,l0,hi0,hc0,rfl,h0⟩:=h
 rw [show G.ty 25=some ⟨19,28,.struct [(0,5),(1,5),(2,5),(3,5),(4,4),(5,4),(6,4),(7,5),(8,5),(9,5),(10,5),(11,5),(12,5),(13,22),(14,5),(15,5),(16,5),(17,23),(18,23)],[.u8 0,.u8 0,.u8 0,.u8 0,.bool false,.bool false,.bool false,.u8 0,.u8 0,.u8 0,.u8 0,.u8 0,.u8 0,.int .u32 0,.u8 0,.u8 0,.u8 0,.int .u16 0,.int .u16 0],[.u8,.u8,.u8,.u8,.bool,.bool,.bool,.u8,.u8,.u8,.u8,.u8,.u8,.int .u32,.u8,.u8,.u8,.int .u16,.int .u16],[.u8,.u8,.u8,.u8,.bool,.bool,.bool,.u8,.u8,.u8,.u8,.u8,.u8,.int .u32,.u8,.u8,.u8,.int .u16,.int .u16]⟩ from by kernel_rfl] at hi0
 cases hi0
 have sv1:=Conf.struct (i:=⟨19,28,.struct [(0,5),(1,5),(2,5),(3,5),(4,4),(5,4),(6,4),(7,5),(8,5),(9,5),(10,5),(11,5),(12,5),(13,22),(14,5),(15,5),(16,5),(17,23),(18,23)],[.u8 0,.u8 0,.u8 0,.u8 0,.bool false,.bool false,.bool false,.u8 0,.u8 0,.u8 0,.u8 0,.u8 0,.u8 0,.int .u32 0,.u8 0,.u8 0,.u8 0,.int .u16 0,.int .u16 0],[.u8,.u8,.u8,.u8,.bool,.bool,.bool,.u8,.u8,.u8,.u8,.u8,.u8,.int .u32,.u8,.u8,.u8,.int .u16,.int .u16],[.u8,.u8,.u8,.u8,.bool,.bool,.bool,.u8,.u8,.u8,.u8,.u8,.u8,.int .u32,.u8,.u8,.u8,.int .u16,.int .u16]⟩) (by kernel_rfl) rfl hc0
 obtain ⟨av1_0,bv1_0,rfl,cv1_0,rv1_0⟩:=sv1
 obtain ⟨v2,rfl⟩:=Conf.u8 (i:=⟨1,1,.u8,[.u8 0],[.u8],[.u8]⟩) (by kernel_rfl) rfl cv1_0
 obtain ⟨av1_1,bv1_1,rfl,cv1_1,rv1_1⟩:=rv1_0
 obtain ⟨v3,rfl⟩:=Conf.u8 (i:=⟨1,1,.u8,[.u8 0],[.u8],[.u8]⟩) (by kernel_rfl) rfl cv1_1
 obtain ⟨av1_2,bv1_2,rfl,cv1_2,rv1_2⟩:=rv1_1
 obtain ⟨v4,rfl⟩:=Conf.u8 (i:=⟨1,1,.u8,[.u8 0],[.u8],[.u8]⟩) (by kernel_rfl) rfl cv1_2
 obtain ⟨av1_3,bv1_3,rfl,cv1_3,rv1_3⟩:=rv1_2
 obtain ⟨v5,rfl⟩:=Conf.u8 (i:=⟨1,1,.u8,[.u8 0],[.u8],[.u8]⟩) (by kernel_rfl) rfl cv1_3
 obtain ⟨av1_4,bv1_4,rfl,cv1_4,rv1_4⟩:=rv1_3
 obtain ⟨v6,rfl⟩:=Conf.bool (i:=⟨1,1,.bool,[.bool false],[.bool],[.bool]⟩) (by kernel_rfl) rfl cv1_4
 obtain ⟨av1_5,bv1_5,rfl,cv1_5,rv1_5⟩:=rv1_4
 obtain ⟨v7,rfl⟩:=Conf.bool (i:=⟨1,1,.bool,[.bool false],[.bool],[.bool]⟩) (by kernel_rfl) rfl cv1_5
 obtain ⟨av1_6,bv1_6,rfl,cv1_6,rv1_6⟩:=rv1_5
 obtain ⟨v8,rfl⟩:=Conf.bool (i:=⟨1,1,.bool,[.bool false],[.bool],[.bool]⟩) (by kernel_rfl) rfl cv1_6
 obtain ⟨av1_7,bv1_7,rfl,cv1_7,rv1_7⟩:=rv1_6
 obtain ⟨v9,rfl⟩:=Conf.u8 (i:=⟨1,1,.u8,[.u8 0],[.u8],[.u8]⟩) (by kernel_rfl) rfl cv1_7
 obtain ⟨av1_8,bv1_8,rfl,cv1_8,rv1_8⟩:=rv1_7
 obtain ⟨v10,rfl⟩:=Conf.u8 (i:=⟨1,1,.u8,[.u8 0],[.u8],[.u8]⟩) (by kernel_rfl) rfl cv1_8
 obtain ⟨av1_9,bv1_9,rfl,cv1_9,rv1_9⟩:=rv1_8
 obtain ⟨v11,rfl⟩:=Conf.u8 (i:=⟨1,1,.u8,[.u8 0],[.u8],[.u8]⟩) (by kernel_rfl) rfl cv1_9
 obtain ⟨av1_10,bv1_10,rfl,cv1_10,rv1_10⟩:=rv1_9
 obtain ⟨v12,rfl⟩:=Conf.u8 (i:=⟨1,1,.u8,[.u8 0],[.u8],[.u8]⟩) (by kernel_rfl) rfl cv1_10
 obtain ⟨av1_11,bv1_11,rfl,cv1_11,rv1_11⟩:=rv1_10
 obtain ⟨v13,rfl⟩:=Conf.u8 (i:=⟨1,1,.u8,[.u8 0],[.u8],[.u8]⟩) (by kernel_rfl) rfl cv1_11
 obtain ⟨av1_12,bv1_12,rfl,cv1_12,rv1_12⟩:=rv1_11
 obtain ⟨v14,rfl⟩:=Conf.u8 (i:=⟨1,1,.u8,[.u8 0],[.u8],[.u8]⟩) (by kernel_rfl) rfl cv1_12
 obtain ⟨av1_13,bv1_13,rfl,cv1_13,rv1_13⟩:=rv1_12
 obtain ⟨v15,rfl,wv15⟩:=Conf.int (i:=⟨1,4,.int .u32,[.int .u32 0],[.int .u32],[.int .u32]⟩) (by kernel_rfl) rfl cv1_13
 obtain ⟨av1_14,bv1_14,rfl,cv1_14,rv1_14⟩:=rv1_13
 obtain ⟨v16,rfl⟩:=Conf.u8 (i:=⟨1,1,.u8,[.u8 0],[.u8],[.u8]⟩) (by kernel_rfl) rfl cv1_14
 obtain ⟨av1_15,bv1_15,rfl,cv1_15,rv1_15⟩:=rv1_14
 obtain ⟨v17,rfl⟩:=Conf.u8 (i:=⟨1,1,.u8,[.u8 0],[.u8],[.u8]⟩) (by kernel_rfl) rfl cv1_15
 obtain ⟨av1_16,bv1_16,rfl,cv1_16,rv1_16⟩:=rv1_15
 obtain ⟨v18,rfl⟩:=Conf.u8 (i:=⟨1,1,.u8,[.u8 0],[.u8],[.u8]⟩) (by kernel_rfl) rfl cv1_16
 obtain ⟨av1_17,bv1_17,rfl,cv1_17,rv1_17⟩:=rv1_16
 obtain ⟨v19,rfl,wv19⟩:=Conf.int (i:=⟨1,2,.int .u16,[.int .u16 0],[.int .u16],[.int .u16]⟩) (by kernel_rfl) rfl cv1_17
 obtain ⟨av1_18,bv1_18,rfl,cv1_18,rv1_18⟩:=rv1_17
 obtain ⟨v20,rfl,wv20⟩:=Conf.int (i:=⟨1,2,.int .u16,[.int .u16 0],[.int .u16],[.int .u16]⟩) (by kernel_rfl) rfl cv1_18
 obtain rfl:=rv1_18
 obtain ⟨i1,q1,l1,hi1,hc1,rfl,h1⟩:=h0
 rw [show G.ty 5=some ⟨1,1,.u8,[.u8 0],[.u8],[.u8]⟩ from by kernel_rfl] at hi1
 cases hi1
 obtain ⟨v21,rfl⟩:=Conf.u8 (i:=⟨1,1,.u8,[.u8 0],[.u8],[.u8]⟩) (by kernel_rfl) rfl hc1
 obtain rfl:=h1
 show callOf G.tab 17 7 [.agg [.u8 v2,.u8 v3,.u8 v4,.u8 v5,.bool v6,.bool v7,.bool v8,.u8 v9,.u8 v10,.u8 v11,.u8 v12,.u8 v13,.u8 v14,.int .u32 v15,.u8 v16,.u8 v17,.u8 v18,.int .u16 v19,.int .u16 v20],.u8 v21] []=some (.bool true,[])
 have gv15:0≤v15∧v15≤4294967295:=by
  simpa [Lit.wf,IntKind.min,IntKind.max,IntKind.signed,IntKind.bits] using wv15
 have gv19:0≤v19∧v19≤65535:=by
  simpa [Lit.wf,IntKind.min,IntKind.max,IntKind.signed,IntKind.bits] using wv19
 have gv20:0≤v20∧v20≤65535:=by
  simpa [Lit.wf,IntKind.min,IntKind.max,IntKind.signed,IntKind.bits] using wv20
 refine Eq.trans (b:=chk (decide (0≤v15)&&decide (v15≤4294967295)&&decide (0≤v19)&&decide (v19≤65535)&&decide (0≤v20)&&decide (v20≤65535)) (some (.bool true,[]))) (by kernel_rfl) ?_
 rw [chk_of (by simp only [Bool.and_eq_true,decide_eq_true_eq,true_and,and_true];omega)]
set_option maxRecDepth 100000 in
theorem lifted (os:Os) (started:os.Started) (H:Type) (enc:TypeId×Value→H) :
  ReturnsInHanded {} Tryz.checked os 7 .any (Rows.verifierAnswersSpec.pre6 enc Tryz.prog Tryz.f7 Rows.verifierAnswersRow.domain false) (Rows.verifierAnswersSpec.post enc Tryz.prog Tryz.f7 false true false false):=by
 refine returnsInHanded_of_change (C:=Tryz.checked) own started (by kernel_rfl) Tryz.func7
  (ChangeSpec.witness6 (enc:=enc) (C:=Tryz.checked) false ⟨#[],#[.agg #[.int .u8 0,.int .u8 0,.int .u8 0,.int .u8 0,.bool false,.bool false,.bool false,.int .u8 0,.int .u8 0,.int .u8 0,.int .u8 0,.int .u8 0,.int .u8 0,.int .u32 0,.int .u8 0,.int .u8 0,.int .u8 0,.int .u16 0,.int .u16 0],.int .u8 0],[]⟩ 8 (by kernel_rfl) (by kernel_rfl) (by kernel_rfl) (by kernel_rfl)) ?_
 exact law_contract (C:=Tryz.checked) (G:=G) (k:=17) (rt:=4) tab rfl laidOut Tryz.func7 (by decide +kernel) (by kernel_rfl) (by kernel_rfl) Tryz.underlying4 (by kernel_rfl)
  (by
   have hall:(Tryz.f7.params.toList.all fun t=>covers G.ty 20 t&&Tryz.prog.readableRec t&&decide (t<Tryz.prog.types.size))=true:=by kernel_rfl
   intro t ht
   have:=List.all_eq_true.1 hall t ht
   simp only [Bool.and_eq_true,decide_eq_true_eq] at this
   exact ⟨this.1.1,this.1.2,this.2⟩) rfl
  (by
   intro H ds hds
   have hlen:Tryz.f7.params.toList.length=ds.length:=hds.symm
   have h3:ds.length=2:=hds.trans (by kernel_rfl)
   exact (match ds,h3 with | [d0,d1],_=>rfl)) law
theorem and_t {a b:Bool} (h:a=true) (g:b=true):(a&&b)=true:=by rw [h,g];rfl
theorem j0:(Rows.verifierAnswersRow.wf (OpenSpec.ofChange Rows.verifierAnswersSpec)&&laidOutB Tryz.prog&&mapsRowed Tryz.prog&&Tryz.f7.params.all (Tryz.prog.readableRec ·)&&namedTie Tryz.prog Rows.verifierAnswersRow.named Rows.verifierAnswersSpec.vars&&(Rows.verifierAnswersRow.stops==[])&&(Tryz.prog.stops==[])&&(Rows.verifierAnswersRow.knobs==[])&&(Tryz.prog.stopKnobs==[]))=true:=by kernel_rfl
theorem j9:(Rows.verifierAnswersRow.inPlace==Tryz.prog.inPlace 7)=true:=by kernel_rfl
theorem j10:(Rows.verifierAnswersRow.unfollowed==Tryz.prog.unfollowed 7)=true:=by kernel_rfl
theorem j11:(Rows.verifierAnswersRow.recurses==Tryz.prog.recurses 7)=true:=by kernel_rfl
theorem j12:(Rows.verifierAnswersRow.named==Tryz.prog.varsNamed 7)=true:=by kernel_rfl
theorem j24:(Tryz.prog.stopsHeard)=true:=by kernel_rfl
theorem j25:(Tryz.prog.mayEnter)=true:=by kernel_rfl
theorem j26:(Rows.verifierAnswersRow.lifted==Tryz.prog.liftsFinal)=true:=by kernel_rfl
theorem joined:joinedFacts Tryz.prog 7 Tryz.f7 Rows.verifierAnswersSpec Rows.verifierAnswersRow=true:=by
 unfold joinedFacts
 exact (and_t (and_t (and_t (and_t (and_t (and_t (and_t (and_t (and_t (and_t (and_t (and_t (and_t (and_t (and_t (and_t (and_t (and_t (and_t (and_t (and_t (and_t (and_t j0 j9) j10) j11) j12) (by kernel_rfl)) (by kernel_rfl)) (by kernel_rfl)) (by kernel_rfl)) (by kernel_rfl)) (by kernel_rfl)) (by kernel_rfl)) (by kernel_rfl)) (by kernel_rfl)) (by kernel_rfl)) (by kernel_rfl)) j24) j25) j26) (by kernel_rfl)) (by kernel_rfl)) (by kernel_rfl)) (by kernel_rfl)) (by kernel_rfl))
theorem over:Rows.verifierAnswersRow.holds Tryz.pinned (OpenSpec.ofChange Rows.verifierAnswersSpec) :=
 OpenClaim.holds_of_wide 7 Tryz.f7 rfl rfl rfl rfl rfl rfl rfl ⟨rfl,rfl,rfl,rfl,rfl⟩ rfl rfl rfl rfl rfl (by kernel_rfl) Tryz.func7 joined
  (of_decide_eq_true (by kernel_rfl)) (by unfold Func.isWrapper;first | (rw [if_pos (by decide +kernel)];kernel_rfl) | (rw [if_neg (by decide +kernel)];exact ⟨rfl,rfl⟩))
  (fun os started H enc _=>lifted os started H enc)
theorem proved:Rows.VerifierAnswersSaid:=over
end Go.Proofs.YtiplnpablmohiaaGreat.verifierAnswers
namespace Go.Proofs.YtiplnpablmohiaaGreat
/-- The statement. -/
theorem verifierAnswers_holds:Rows.VerifierAnswersSaid:=verifierAnswers.proved
end Go.Proofs.YtiplnpablmohiaaGreat
