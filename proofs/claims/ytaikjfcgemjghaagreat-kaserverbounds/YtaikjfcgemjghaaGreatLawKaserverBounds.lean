/- Proved: the law 'KaserverBounds' returns true for every input, and each argument reads afterwards as it read before. Its conditions are those of the given row alone. -/
import Derived.Test.YtaikjfcgemjghaaGreatTop
namespace Go.Proofs.YtaikjfcgemjghaaGreat.kaserverBounds
open Go Go.Abs Go.Proofs
open Go.ChangeShapes Go.WideShapes Go.ChangeAt Go.RowKit
set_option linter.unusedVariables false
set_option linter.unusedSimpArgs false
theorem law (l:List AV) (h:ConfArgs G.ty Tryz.f7.params.toList l):callOf G.tab 18 7 l []=some (.bool true,[]):=by
 obtain ⟨i0,q0,l0,hi0,hc0,rfl,h0⟩:=h
 rw [show G.ty 59=some ⟨1,24,.slice 63 false,[.nils],[.sl 13],[]⟩ from by kernel_rfl] at hi0
 cases hi0
 obtain ⟨eiv1,v1,heiv1,rfl,wv1,helv1⟩:=Conf.sl (i:=⟨1,24,.slice 63 false,[.nils],[.sl 13],[]⟩) (by kernel_rfl) rfl hc0
 rw [show G.ty 63=some ⟨13,14,.struct [(0,5),(1,5),(2,5),(3,5),(4,5),(5,5),(6,5),(7,5),(8,5),(9,5),(10,5),(11,5),(12,61)],[.u8 0,.u8 0,.u8 0,.u8 0,.u8 0,.u8 0,.u8 0,.u8 0,.u8 0,.u8 0,.u8 0,.u8 0,.int .u16 0],[.u8,.u8,.u8,.u8,.u8,.u8,.u8,.u8,.u8,.u8,.u8,.u8,.int .u16],[.u8,.u8,.u8,.u8,.u8,.u8,.u8,.u8,.u8,.u8,.u8,.u8,.int .u16]⟩ from by kernel_rfl] at heiv1
 cases heiv1
 have hallv1:v1.all Kerb.isKAsk=true:=by
  rw [List.all_eq_true]
  intro x hx
  obtain ⟨qv1,hqv1,rfl⟩:=helv1 x hx
  have sv2:=Conf.struct (i:=⟨13,14,.struct [(0,5),(1,5),(2,5),(3,5),(4,5),(5,5),(6,5),(7,5),(8,5),(9,5),(10,5),(11,5),(12,61)],[.u8 0,.u8 0,.u8 0,.u8 0,.u8 0,.u8 0,.u8 0,.u8 0,.u8 0,.u8 0,.u8 0,.u8 0,.int .u16 0],[.u8,.u8,.u8,.u8,.u8,.u8,.u8,.u8,.u8,.u8,.u8,.u8,.int .u16],[.u8,.u8,.u8,.u8,.u8,.u8,.u8,.u8,.u8,.u8,.u8,.u8,.int .u16]⟩) (by kernel_rfl) rfl hqv1
  obtain ⟨av2_0,bv2_0,rfl,cv2_0,rv2_0⟩:=sv2
  obtain ⟨v3,rfl⟩:=Conf.u8 (i:=⟨1,1,.u8,[.u8 0],[.u8],[.u8]⟩) (by kernel_rfl) rfl cv2_0
  obtain ⟨av2_1,bv2_1,rfl,cv2_1,rv2_1⟩:=rv2_0
  obtain ⟨v4,rfl⟩:=Conf.u8 (i:=⟨1,1,.u8,[.u8 0],[.u8],[.u8]⟩) (by kernel_rfl) rfl cv2_1
  obtain ⟨av2_2,bv2_2,rfl,cv2_2,rv2_2⟩:=rv2_1
  obtain ⟨v5,rfl⟩:=Conf.u8 (i:=⟨1,1,.u8,[.u8 0],[.u8],[.u8]⟩) (by kernel_rfl) rfl cv2_2
  obtain ⟨av2_3,bv2_3,rfl,cv2_3,rv2_3⟩:=rv2_2
  obtain ⟨v6,rfl⟩:=Conf.u8 (i:=⟨1,1,.u8,[.u8 0],[.u8],[.u8]⟩) (by kernel_rfl) rfl cv2_3
  obtain ⟨av2_4,bv2_4,rfl,cv2_4,rv2_4⟩:=rv2_3
  obtain ⟨v7,rfl⟩:=Conf.u8 (i:=⟨1,1,.u8,[.u8 0],[.u8],[.u8]⟩) (by kernel_rfl) rfl cv2_4
  obtain ⟨av2_5,bv2_5,rfl,cv2_5,rv2_5⟩:=rv2_4
  obtain ⟨v8,rfl⟩:=Conf.u8 (i:=⟨1,1,.u8,[.u8 0],[.u8],[.u8]⟩) (by kernel_rfl) rfl cv2_5
  obtain ⟨av2_6,bv2_6,rfl,cv2_6,rv2_6⟩:=rv2_5
  obtain ⟨v9,rfl⟩:=Conf.u8 (i:=⟨1,1,.u8,[.u8 0],[.u8],[.u8]⟩) (by kernel_rfl) rfl cv2_6
  obtain ⟨av2_7,bv2_7,rfl,cv2_7,rv2_7⟩:=rv2_6
  obtain ⟨v10,rfl⟩:=Conf.u8 (i:=⟨1,1,.u8,[.u8 0],[.u8],[.u8]⟩) (by kernel_rfl) rfl cv2_7
  obtain ⟨av2_8,bv2_8,rfl,cv2_8,rv2_8⟩:=rv2_7
  obtain ⟨v11,rfl⟩:=Conf.u8 (i:=⟨1,1,.u8,[.u8 0],[.u8],[.u8]⟩) (by kernel_rfl) rfl cv2_8
  obtain ⟨av2_9,bv2_9,rfl,cv2_9,rv2_9⟩:=rv2_8
  obtain ⟨v12,rfl⟩:=Conf.u8 (i:=⟨1,1,.u8,[.u8 0],[.u8],[.u8]⟩) (by kernel_rfl) rfl cv2_9
  obtain ⟨av2_10,bv2_10,rfl,cv2_10,rv2_10⟩:=rv2_9
  obtain ⟨v13,rfl⟩:=Conf.u8 (i:=⟨1,1,.u8,[.u8 0],[.u8],[.u8]⟩) (by kernel_rfl) rfl cv2_10
  obtain ⟨av2_11,bv2_11,rfl,cv2_11,rv2_11⟩:=rv2_10
  obtain ⟨v14,rfl⟩:=Conf.u8 (i:=⟨1,1,.u8,[.u8 0],[.u8],[.u8]⟩) (by kernel_rfl) rfl cv2_11
  obtain ⟨av2_12,bv2_12,rfl,cv2_12,rv2_12⟩:=rv2_11
  obtain ⟨v15,rfl,wv15⟩:=Conf.int (i:=⟨1,2,.int .u16,[.int .u16 0],[.int .u16],[.int .u16]⟩) (by kernel_rfl) rfl cv2_12
  obtain rfl:=rv2_12
  have gv15:0≤v15∧v15≤65535:=by
   simpa [Lit.wf,IntKind.min,IntKind.max,IntKind.signed,IntKind.bits] using wv15
  show Kerb.isKAsk (.agg [.u8 v3,.u8 v4,.u8 v5,.u8 v6,.u8 v7,.u8 v8,.u8 v9,.u8 v10,.u8 v11,.u8 v12,.u8 v13,.u8 v14,.int .u16 v15])=true
  simp only [Kerb.isKAsk,Bool.and_eq_true,decide_eq_true_eq]
  omega
 obtain ⟨i1,q1,l1,hi1,hc1,rfl,h1⟩:=h0
 rw [show G.ty 5=some ⟨1,1,.u8,[.u8 0],[.u8],[.u8]⟩ from by kernel_rfl] at hi1
 cases hi1
 obtain ⟨v16,rfl⟩:=Conf.u8 (i:=⟨1,1,.u8,[.u8 0],[.u8],[.u8]⟩) (by kernel_rfl) rfl hc1
 obtain ⟨i2,q2,l2,hi2,hc2,rfl,h2⟩:=h1
 rw [show G.ty 5=some ⟨1,1,.u8,[.u8 0],[.u8],[.u8]⟩ from by kernel_rfl] at hi2
 cases hi2
 obtain ⟨v17,rfl⟩:=Conf.u8 (i:=⟨1,1,.u8,[.u8 0],[.u8],[.u8]⟩) (by kernel_rfl) rfl hc2
 obtain ⟨i3,q3,l3,hi3,hc3,rfl,h3⟩:=h2
 rw [show G.ty 5=some ⟨1,1,.u8,[.u8 0],[.u8],[.u8]⟩ from by kernel_rfl] at hi3
 cases hi3
 obtain ⟨v18,rfl⟩:=Conf.u8 (i:=⟨1,1,.u8,[.u8 0],[.u8],[.u8]⟩) (by kernel_rfl) rfl hc3
 obtain ⟨i4,q4,l4,hi4,hc4,rfl,h4⟩:=h3
 rw [show G.ty 5=some ⟨1,1,.u8,[.u8 0],[.u8],[.u8]⟩ from by kernel_rfl] at hi4
 cases hi4
 obtain ⟨v19,rfl⟩:=Conf.u8 (i:=⟨1,1,.u8,[.u8 0],[.u8],[.u8]⟩) (by kernel_rfl) rfl hc4
 obtain rfl:=h4
 show callOf G.tab 18 7 [.sl 13 v1,.u8 v16,.u8 v17,.u8 v18,.u8 v19] []=some (.bool true,[])
 refine Eq.trans (b:=chk (v1.all Kerb.isKAsk) (some (.bool true,[]))) (by kernel_rfl) ?_
 rw [chk_of (by first | exact hallv1 | simp only [hallv1,Bool.and_self])]
set_option maxRecDepth 100000 in
theorem lifted (os:Os) (started:os.Started) (H:Type) (enc:TypeId×Value→H) :
  ReturnsInHanded {} Tryz.checked os 7 .any (Rows.kaserverBoundsSpec.pre6 enc Tryz.prog Tryz.f7 Rows.kaserverBoundsRow.domain false) (Rows.kaserverBoundsSpec.post enc Tryz.prog Tryz.f7 false true false false):=by
 refine returnsInHanded_of_change (C:=Tryz.checked) own started (by kernel_rfl) Tryz.func7
  (ChangeSpec.witness6 (enc:=enc) (C:=Tryz.checked) false ⟨#[],#[.slice none 0 0,.int .u8 0,.int .u8 0,.int .u8 0,.int .u8 0],[]⟩ 8 (by kernel_rfl) (by kernel_rfl) (by kernel_rfl) (by kernel_rfl)) ?_
 exact law_contract (C:=Tryz.checked) (G:=G) (k:=18) (rt:=4) tab rfl laidOut Tryz.func7 (by decide +kernel) (by kernel_rfl) (by kernel_rfl) Tryz.underlying4 (by kernel_rfl)
  (by
   have hall:(Tryz.f7.params.toList.all fun t=>covers G.ty 20 t&&Tryz.prog.readableRec t&&decide (t<Tryz.prog.types.size))=true:=by kernel_rfl
   intro t ht
   have:=List.all_eq_true.1 hall t ht
   simp only [Bool.and_eq_true,decide_eq_true_eq] at this
   exact ⟨this.1.1,this.1.2,this.2⟩) rfl
  (by
   intro H ds hds
   have hlen:Tryz.f7.params.toList.length=ds.length:=hds.symm
   have h3:ds.length=5:=hds.trans (by kernel_rfl)
   exact (match ds,h3 with | [d0,d1,d2,d3,d4],_=>rfl)) law
theorem and_t {a b:Bool} (h:a=true) (g:b=true):(a&&b)=true:=by rw [h,g];rfl
theorem j0:(Rows.kaserverBoundsRow.wf (OpenSpec.ofChange Rows.kaserverBoundsSpec)&&laidOutB Tryz.prog&&mapsRowed Tryz.prog&&Tryz.f7.params.all (Tryz.prog.readableRec ·)&&namedTie Tryz.prog Rows.kaserverBoundsRow.named Rows.kaserverBoundsSpec.vars&&(Rows.kaserverBoundsRow.stops==[])&&(Tryz.prog.stops==[])&&(Rows.kaserverBoundsRow.knobs==[])&&(Tryz.prog.stopKnobs==[]))=true:=by kernel_rfl
theorem j9:(Rows.kaserverBoundsRow.inPlace==Tryz.prog.inPlace 7)=true:=by kernel_rfl
theorem j10:(Rows.kaserverBoundsRow.unfollowed==Tryz.prog.unfollowed 7)=true:=by kernel_rfl
theorem j11:(Rows.kaserverBoundsRow.recurses==Tryz.prog.recurses 7)=true:=by kernel_rfl
theorem j12:(Rows.kaserverBoundsRow.named==Tryz.prog.varsNamed 7)=true:=by kernel_rfl
theorem j24:(Tryz.prog.stopsHeard)=true:=by kernel_rfl
theorem j25:(Tryz.prog.mayEnter)=true:=by kernel_rfl
theorem j26:(Rows.kaserverBoundsRow.lifted==Tryz.prog.liftsFinal)=true:=by kernel_rfl
theorem joined:joinedFacts Tryz.prog 7 Tryz.f7 Rows.kaserverBoundsSpec Rows.kaserverBoundsRow=true:=by
 unfold joinedFacts
 exact (and_t (and_t (and_t (and_t (and_t (and_t (and_t (and_t (and_t (and_t (and_t (and_t (and_t (and_t (and_t (and_t (and_t (and_t (and_t (and_t (and_t (and_t (and_t j0 j9) j10) j11) j12) (by kernel_rfl)) (by kernel_rfl)) (by kernel_rfl)) (by kernel_rfl)) (by kernel_rfl)) (by kernel_rfl)) (by kernel_rfl)) (by kernel_rfl)) (by kernel_rfl)) (by kernel_rfl)) (by kernel_rfl)) j24) j25) j26) (by kernel_rfl)) (by kernel_rfl)) (by kernel_rfl)) (by kernel_rfl)) (by kernel_rfl))
theorem over:Rows.kaserverBoundsRow.holds Tryz.pinned (OpenSpec.ofChange Rows.kaserverBoundsSpec) :=
 OpenClaim.holds_of_wide 7 Tryz.f7 rfl rfl rfl rfl rfl rfl rfl ⟨rfl,rfl,rfl,rfl,rfl⟩ rfl rfl rfl rfl rfl (by kernel_rfl) Tryz.func7 joined
  (of_decide_eq_true (by kernel_rfl)) (by unfold Func.isWrapper;first | (rw [if_pos (by decide +kernel)];kernel_rfl) | (rw [if_neg (by decide +kernel)];exact ⟨rfl,rfl⟩))
  (fun os started H enc _=>lifted os started H enc)
theorem proved:Rows.KaserverBoundsSaid:=over
end Go.Proofs.YtaikjfcgemjghaaGreat.kaserverBounds
namespace Go.Proofs.YtaikjfcgemjghaaGreat
/-- The statement. -/
theorem kaserverBounds_holds:Rows.KaserverBoundsSaid:=kaserverBounds.proved
end Go.Proofs.YtaikjfcgemjghaaGreat
