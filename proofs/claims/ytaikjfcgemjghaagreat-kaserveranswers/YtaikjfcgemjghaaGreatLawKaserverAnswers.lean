/- Proved: the law 'KaserverAnswers' returns true for every input, and each argument reads afterwards as it read before. Its conditions are those of the given row alone. -/
import Derived.Test.YtaikjfcgemjghaaGreatTop
namespace Go.Proofs.YtaikjfcgemjghaaGreat.kaserverAnswers
open Go Go.Abs Go.Proofs
open Go.ChangeShapes Go.WideShapes Go.ChangeAt Go.RowKit
set_option linter.unusedVariables false
set_option linter.unusedSimpArgs false
theorem law (l:List AV) (h:ConfArgs G.ty Tryz.f4.params.toList l):callOf G.tab 18 4 l []=some (.bool true,[]):=by
 obtain ⟨i0,q0,l0,hi0,hc0,rfl,h0⟩:=h
 rw [show G.ty 59=some ⟨1,24,.slice 63 false,[.nils],[.sl 13],[]⟩ from by kernel_rfl] at hi0
 cases hi0
 obtain ⟨eiv1,v1,heiv1,rfl,wv1,helv1⟩:=Conf.sl (i:=⟨1,24,.slice 63 false,[.nils],[.sl 13],[]⟩) (by kernel_rfl) rfl hc0
 rw [show G.ty 63=some ⟨13,14,.struct [(0,5),(1,5),(2,5),(3,5),(4,5),(5,5),(6,5),(7,5),(8,5),(9,5),(10,5),(11,5),(12,61)],[.u8 0,.u8 0,.u8 0,.u8 0,.u8 0,.u8 0,.u8 0,.u8 0,.u8 0,.u8 0,.u8 0,.u8 0,.int .u16 0],[.u8,.u8,.u8,.u8,.u8,.u8,.u8,.u8,.u8,.u8,.u8,.u8,.int .u16],[.u8,.u8,.u8,.u8,.u8,.u8,.u8,.u8,.u8,.u8,.u8,.u8,.int .u16]⟩ from by kernel_rfl] at heiv1
 cases heiv1
 have hallv1:v1.all Kerb.isKAsk=true:=by
  rw [List.all_eq_true]
  intro x hx
  obtain ⟨qv1,hqv1,rfl⟩:=helv1 x hx
  have sv2:=Conf.struct (i:=⟨13,14,.struct [(0,5),(1,5),(2,5),(3,5),(4,5),(5,5),(6,5),(7,5),(8,5),(9,5),(10,5),(11,5),(12,61)],[.u8 0,.u8 0,.u8 0,.u8 0,.u8 0,.u8 0,.u8 0,.u8 0,.u8 0,.u8 0,.u8 0,.u8 0,.int .u16 0],[.u8,.u8,.u8,.u8,.u8,.u8,.u8,.u8,.u8,.u8,.u8,.u8,.int .u16],[.u8,.u8,.u8,.u8,.u8,.u8,.u8,.u8,.u8,.u8,.u8,.u8,.int .u16]⟩) (by kernel_rfl) rfl hqv1
  obtain ⟨av2_0,bv2_0,rfl,cv2_0,rv2_0⟩:=sv2
  obtain ⟨v3,rfl⟩:=Conf.u8 (i:=⟨1,1,.u8,[.u8 0],[.u8],[.u8]⟩) (by kernel_rfl) rfl cv2_0
  obtain ⟨av2_1,bv2_1,rfl,cv2_1,rv2_1⟩:=rv2_0
  obtain ⟨v4,rfl⟩:=Conf.u8 (i:=⟨1,1,.u8,[.u8 0],[.u8],[.u8]⟩) (by kernel_rfl) rfl cv2_1
  obtain ⟨av2_2,bv2_2,rfl,cv2_2,rv2_2⟩:=rv2_1
  obtain ⟨v5,rfl⟩:=Conf.u8 (i:=⟨1,1,.u8,[.u8 0],[.u8],[.u8]⟩) (by kernel_rfl) rfl cv2_2
  obtain ⟨av2_3,bv2_3,rfl,cv2_3,rv2_3⟩:=rv2_2
  obtain ⟨v6,rfl⟩:=Conf.u8 (i:=⟨1,1,.u8,[.u8 0],[.u8],[.u8]⟩) (by kernel_rfl) rfl cv2_3
  obtain ⟨av2_4,bv2_4,rfl,cv2_4,rv2_4⟩:=rv2_3
  obtain ⟨v7,rfl⟩:=Conf.u8 (i:=⟨1,1,.u8,[.u8 0],[.u8],[.u8]⟩) (by kernel_rfl) rfl cv2_4
  obtain ⟨av2_5,bv2_5,rfl,cv2_5,rv2_5⟩:=rv2_4
  obtain ⟨v8,rfl⟩:=Conf.u8 (i:=⟨1,1,.u8,[.u8 0],[.u8],[.u8]⟩) (by kernel_rfl) rfl cv2_5
  obtain ⟨av2_6,bv2_6,rfl,cv2_6,rv2_6⟩:=rv2_5
  obtain ⟨v9,rfl⟩:=Conf.u8 (i:=⟨1,1,.u8,[.u8 0],[.u8],[.u8]⟩) (by kernel_rfl) rfl cv2_6
  obtain ⟨av2_7,bv2_7,rfl,cv2_7,rv2_7⟩:=rv2_6
  obtain ⟨v10,rfl⟩:=Conf.u8 (i:=⟨1,1,.u8,[.u8 0],[.u8],[.u8]⟩) (by kernel_rfl) rfl cv2_7
  obtain ⟨av2_8,bv2_8,rfl,cv2_8,rv2_8⟩:=rv2_7
  obtain ⟨v11,rfl⟩:=Conf.u8 (i:=⟨1,1,.u8,[.u8 0],[.u8],[.u8]⟩) (by kernel_rfl) rfl cv2_8
  obtain ⟨av2_9,bv2_9,rfl,cv2_9,rv2_9⟩:=rv2_8
  obtain ⟨v12,rfl⟩:=Conf.u8 (i:=⟨1,1,.u8,[.u8 0],[.u8],[.u8]⟩) (by kernel_rfl) rfl cv2_9
  obtain ⟨av2_10,bv2_10,rfl,cv2_10,rv2_10⟩:=rv2_9
  obtain ⟨v13,rfl⟩:=Conf.u8 (i:=⟨1,1,.u8,[.u8 0],[.u8],[.u8]⟩) (by kernel_rfl) rfl cv2_10
  obtain ⟨av2_11,bv2_11,rfl,cv2_11,rv2_11⟩:=rv2_10
  obtain ⟨v14,rfl⟩:=Conf.u8 (i:=⟨1,1,.u8,[.u8 0],[.u8],[.u8]⟩) (by kernel_rfl) rfl cv2_11
  obtain ⟨av2_12,bv2_12,rfl,cv2_12,rv2_12⟩:=rv2_11
  obtain ⟨v15,rfl,wv15⟩:=Conf.int (i:=⟨1,2,.int .u16,[.int .u16 0],[.int .u16],[.int .u16]⟩) (by kernel_rfl) rfl cv2_12
  obtain rfl:=rv2_12
  have gv15:0≤v15∧v15≤65535:=by
   simpa [Lit.wf,IntKind.min,IntKind.max,IntKind.signed,IntKind.bits] using wv15
  show Kerb.isKAsk (.agg [.u8 v3,.u8 v4,.u8 v5,.u8 v6,.u8 v7,.u8 v8,.u8 v9,.u8 v10,.u8 v11,.u8 v12,.u8 v13,.u8 v14,.int .u16 v15])=true
  simp only [Kerb.isKAsk,Bool.and_eq_true,decide_eq_true_eq]
  omega
 obtain ⟨i1,q1,l1,hi1,hc1,rfl,h1⟩:=h0
 rw [show G.ty 43=some ⟨1,24,.slice 5 true,[.nils],[.bsl],[]⟩ from by kernel_rfl] at hi1
 cases hi1
 obtain ⟨v16,rfl,wv16⟩:=Conf.bs (i:=⟨1,24,.slice 5 true,[.nils],[.bsl],[]⟩) (by kernel_rfl) rfl hc1
 obtain ⟨i2,q2,l2,hi2,hc2,rfl,h2⟩:=h1
 rw [show G.ty 43=some ⟨1,24,.slice 5 true,[.nils],[.bsl],[]⟩ from by kernel_rfl] at hi2
 cases hi2
 obtain ⟨v17,rfl,wv17⟩:=Conf.bs (i:=⟨1,24,.slice 5 true,[.nils],[.bsl],[]⟩) (by kernel_rfl) rfl hc2
 obtain ⟨i3,q3,l3,hi3,hc3,rfl,h3⟩:=h2
 rw [show G.ty 5=some ⟨1,1,.u8,[.u8 0],[.u8],[.u8]⟩ from by kernel_rfl] at hi3
 cases hi3
 obtain ⟨v18,rfl⟩:=Conf.u8 (i:=⟨1,1,.u8,[.u8 0],[.u8],[.u8]⟩) (by kernel_rfl) rfl hc3
 obtain ⟨i4,q4,l4,hi4,hc4,rfl,h4⟩:=h3
 rw [show G.ty 5=some ⟨1,1,.u8,[.u8 0],[.u8],[.u8]⟩ from by kernel_rfl] at hi4
 cases hi4
 obtain ⟨v19,rfl⟩:=Conf.u8 (i:=⟨1,1,.u8,[.u8 0],[.u8],[.u8]⟩) (by kernel_rfl) rfl hc4
 obtain ⟨i5,q5,l5,hi5,hc5,rfl,h5⟩:=h4
 rw [show G.ty 5=some ⟨1,1,.u8,[.u8 0],[.u8],[.u8]⟩ from by kernel_rfl] at hi5
 cases hi5
 obtain ⟨v20,rfl⟩:=Conf.u8 (i:=⟨1,1,.u8,[.u8 0],[.u8],[.u8]⟩) (by kernel_rfl) rfl hc5
 obtain ⟨i6,q6,l6,hi6,hc6,rfl,h6⟩:=h5
 rw [show G.ty 5=some ⟨1,1,.u8,[.u8 0],[.u8],[.u8]⟩ from by kernel_rfl] at hi6
 cases hi6
 obtain ⟨v21,rfl⟩:=Conf.u8 (i:=⟨1,1,.u8,[.u8 0],[.u8],[.u8]⟩) (by kernel_rfl) rfl hc6
 obtain ⟨i7,q7,l7,hi7,hc7,rfl,h7⟩:=h6
 rw [show G.ty 43=some ⟨1,24,.slice 5 true,[.nils],[.bsl],[]⟩ from by kernel_rfl] at hi7
 cases hi7
 obtain ⟨v22,rfl,wv22⟩:=Conf.bs (i:=⟨1,24,.slice 5 true,[.nils],[.bsl],[]⟩) (by kernel_rfl) rfl hc7
 obtain ⟨i8,q8,l8,hi8,hc8,rfl,h8⟩:=h7
 rw [show G.ty 3=some ⟨1,8,.int .i64,[.int .i64 0],[.int .i64],[.int .i64]⟩ from by kernel_rfl] at hi8
 cases hi8
 obtain ⟨v23,rfl,wv23⟩:=Conf.int (i:=⟨1,8,.int .i64,[.int .i64 0],[.int .i64],[.int .i64]⟩) (by kernel_rfl) rfl hc8
 obtain ⟨i9,q9,l9,hi9,hc9,rfl,h9⟩:=h8
 rw [show G.ty 3=some ⟨1,8,.int .i64,[.int .i64 0],[.int .i64],[.int .i64]⟩ from by kernel_rfl] at hi9
 cases hi9
 obtain ⟨v24,rfl,wv24⟩:=Conf.int (i:=⟨1,8,.int .i64,[.int .i64 0],[.int .i64],[.int .i64]⟩) (by kernel_rfl) rfl hc9
 obtain ⟨i10,q10,l10,hi10,hc10,rfl,h10⟩:=h9
 rw [show G.ty 34=some ⟨1,8,.int .u64,[.int .u64 0],[.int .u64],[.int .u64]⟩ from by kernel_rfl] at hi10
 cases hi10
 obtain ⟨v25,rfl,wv25⟩:=Conf.int (i:=⟨1,8,.int .u64,[.int .u64 0],[.int .u64],[.int .u64]⟩) (by kernel_rfl) rfl hc10
 obtain rfl:=h10
 show callOf G.tab 18 4 [.sl 13 v1,.bs v16,.bs v17,.u8 v18,.u8 v19,.u8 v20,.u8 v21,.bs v22,.int .i64 v23,.int .i64 v24,.int .u64 v25] []=some (.bool true,[])
 have gv23 : -9223372036854775808≤v23∧v23≤9223372036854775807:=by
  simpa [Lit.wf,IntKind.min,IntKind.max,IntKind.signed,IntKind.bits] using wv23
 have gv24 : -9223372036854775808≤v24∧v24≤9223372036854775807:=by
  simpa [Lit.wf,IntKind.min,IntKind.max,IntKind.signed,IntKind.bits] using wv24
 have gv25:0≤v25∧v25≤18446744073709551615:=by
  simpa [Lit.wf,IntKind.min,IntKind.max,IntKind.signed,IntKind.bits] using wv25
 refine Eq.trans (b:=chk (v1.all Kerb.isKAsk&&decide (0≤v25)&&decide (v25<18446744073709551616)) (some (.bool true,[]))) (by kernel_rfl) ?_
 have gv16:v16.length≤9223372036854775807:=wv16
 have gv17:v17.length≤9223372036854775807:=wv17
 have gv22:v22.length≤9223372036854775807:=wv22
 rw [chk_of (by simp only [hallv1,Bool.and_eq_true,decide_eq_true_eq,true_and,and_true];omega)]
set_option maxRecDepth 100000 in
theorem lifted (os:Os) (started:os.Started) (H:Type) (enc:TypeId×Value→H) :
  ReturnsInHanded {} Tryz.checked os 4 .any (Rows.kaserverAnswersSpec.pre6 enc Tryz.prog Tryz.f4 Rows.kaserverAnswersRow.domain false) (Rows.kaserverAnswersSpec.post enc Tryz.prog Tryz.f4 false true false false):=by
 refine returnsInHanded_of_change (C:=Tryz.checked) own started (by kernel_rfl) Tryz.func4
  (ChangeSpec.witness6 (enc:=enc) (C:=Tryz.checked) false ⟨#[],#[.slice none 0 0,.slice none 0 0,.slice none 0 0,.int .u8 0,.int .u8 0,.int .u8 0,.int .u8 0,.slice none 0 0,.int .i64 0,.int .i64 0,.int .u64 0],[]⟩ 8 (by kernel_rfl) (by kernel_rfl) (by kernel_rfl) (by kernel_rfl)) ?_
 exact law_contract (C:=Tryz.checked) (G:=G) (k:=18) (rt:=4) tab rfl laidOut Tryz.func4 (by decide +kernel) (by kernel_rfl) (by kernel_rfl) Tryz.underlying4 (by kernel_rfl)
  (by
   have hall:(Tryz.f4.params.toList.all fun t=>covers G.ty 20 t&&Tryz.prog.readableRec t&&decide (t<Tryz.prog.types.size))=true:=by kernel_rfl
   intro t ht
   have:=List.all_eq_true.1 hall t ht
   simp only [Bool.and_eq_true,decide_eq_true_eq] at this
   exact ⟨this.1.1,this.1.2,this.2⟩) rfl
  (by
   intro H ds hds
   have hlen:Tryz.f4.params.toList.length=ds.length:=hds.symm
   have h3:ds.length=11:=hds.trans (by kernel_rfl)
   exact (match ds,h3 with | [d0,d1,d2,d3,d4,d5,d6,d7,d8,d9,d10],_=>rfl)) law
theorem and_t {a b:Bool} (h:a=true) (g:b=true):(a&&b)=true:=by rw [h,g];rfl
theorem j0:(Rows.kaserverAnswersRow.wf (OpenSpec.ofChange Rows.kaserverAnswersSpec)&&laidOutB Tryz.prog&&mapsRowed Tryz.prog&&Tryz.f4.params.all (Tryz.prog.readableRec ·)&&namedTie Tryz.prog Rows.kaserverAnswersRow.named Rows.kaserverAnswersSpec.vars&&(Rows.kaserverAnswersRow.stops==[])&&(Tryz.prog.stops==[])&&(Rows.kaserverAnswersRow.knobs==[])&&(Tryz.prog.stopKnobs==[]))=true:=by kernel_rfl
theorem j9:(Rows.kaserverAnswersRow.inPlace==Tryz.prog.inPlace 4)=true:=by kernel_rfl
theorem j10:(Rows.kaserverAnswersRow.unfollowed==Tryz.prog.unfollowed 4)=true:=by kernel_rfl
theorem j11:(Rows.kaserverAnswersRow.recurses==Tryz.prog.recurses 4)=true:=by kernel_rfl
theorem j12:(Rows.kaserverAnswersRow.named==Tryz.prog.varsNamed 4)=true:=by kernel_rfl
theorem j24:(Tryz.prog.stopsHeard)=true:=by kernel_rfl
theorem j25:(Tryz.prog.mayEnter)=true:=by kernel_rfl
theorem j26:(Rows.kaserverAnswersRow.lifted==Tryz.prog.liftsFinal)=true:=by kernel_rfl
theorem joined:joinedFacts Tryz.prog 4 Tryz.f4 Rows.kaserverAnswersSpec Rows.kaserverAnswersRow=true:=by
 unfold joinedFacts
 exact (and_t (and_t (and_t (and_t (and_t (and_t (and_t (and_t (and_t (and_t (and_t (and_t (and_t (and_t (and_t (and_t (and_t (and_t (and_t (and_t (and_t (and_t (and_t j0 j9) j10) j11) j12) (by kernel_rfl)) (by kernel_rfl)) (by kernel_rfl)) (by kernel_rfl)) (by kernel_rfl)) (by kernel_rfl)) (by kernel_rfl)) (by kernel_rfl)) (by kernel_rfl)) (by kernel_rfl)) (by kernel_rfl)) j24) j25) j26) (by kernel_rfl)) (by kernel_rfl)) (by kernel_rfl)) (by kernel_rfl)) (by kernel_rfl))
theorem over:Rows.kaserverAnswersRow.holds Tryz.pinned (OpenSpec.ofChange Rows.kaserverAnswersSpec) :=
 OpenClaim.holds_of_wide 4 Tryz.f4 rfl rfl rfl rfl rfl rfl rfl ⟨rfl,rfl,rfl,rfl,rfl⟩ rfl rfl rfl rfl rfl (by kernel_rfl) Tryz.func4 joined
  (of_decide_eq_true (by kernel_rfl)) (by unfold Func.isWrapper;first | (rw [if_pos (by decide +kernel)];kernel_rfl) | (rw [if_neg (by decide +kernel)];exact ⟨rfl,rfl⟩))
  (fun os started H enc _=>lifted os started H enc)
theorem proved:Rows.KaserverAnswersSaid:=over
end Go.Proofs.YtaikjfcgemjghaaGreat.kaserverAnswers
namespace Go.Proofs.YtaikjfcgemjghaaGreat
/-- The statement. -/
theorem kaserverAnswers_holds:Rows.KaserverAnswersSaid:=kaserverAnswers.proved
end Go.Proofs.YtaikjfcgemjghaaGreat
