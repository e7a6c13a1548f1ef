/- Proved: the law 'KaclientPath' returns true for every input, and each argument reads afterwards as it read before. Its conditions are those of the given row alone. -/
import Derived.Test.YtaikjfcgemjghaaGreatTop
namespace Go.Proofs.YtaikjfcgemjghaaGreat.kaclientPath
open Go Go.Abs Go.Proofs
open Go.ChangeShapes Go.WideShapes Go.ChangeAt Go.RowKit
set_option linter.unusedVariables false
set_option linter.unusedSimpArgs false
theorem law (l:List AV) (h:ConfArgs G.ty Tryz.f3.params.toList l):callOf G.tab 15 3 l []=some (.bool true,[]):=by
 obtain ⟨i0,q0,l0,hi0,hc0,rfl,h0⟩:=h
 rw [show G.ty 5=some ⟨1,1,.u8,[.u8 0],[.u8],[.u8]⟩ from by kernel_rfl] at hi0
 cases hi0
 obtain ⟨v1,rfl⟩:=Conf.u8 (i:=⟨1,1,.u8,[.u8 0],[.u8],[.u8]⟩) (by kernel_rfl) rfl hc0
 obtain ⟨i1,q1,l1,hi1,hc1,rfl,h1⟩:=h0
 rw [show G.ty 5=some ⟨1,1,.u8,[.u8 0],[.u8],[.u8]⟩ from by kernel_rfl] at hi1
 cases hi1
 obtain ⟨v2,rfl⟩:=Conf.u8 (i:=⟨1,1,.u8,[.u8 0],[.u8],[.u8]⟩) (by kernel_rfl) rfl hc1
 obtain ⟨i2,q2,l2,hi2,hc2,rfl,h2⟩:=h1
 rw [show G.ty 5=some ⟨1,1,.u8,[.u8 0],[.u8],[.u8]⟩ from by kernel_rfl] at hi2
 cases hi2
 obtain ⟨v3,rfl⟩:=Conf.u8 (i:=⟨1,1,.u8,[.u8 0],[.u8],[.u8]⟩) (by kernel_rfl) rfl hc2
 obtain ⟨i3,q3,l3,hi3,hc3,rfl,h3⟩:=h2
 rw [show G.ty 5=some ⟨1,1,.u8,[.u8 0],[.u8],[.u8]⟩ from by kernel_rfl] at hi3
 cases hi3
 obtain ⟨v4,rfl⟩:=Conf.u8 (i:=⟨1,1,.u8,[.u8 0],[.u8],[.u8]⟩) (by kernel_rfl) rfl hc3
 obtain rfl:=h3
 show callOf G.tab 15 3 [.u8 v1,.u8 v2,.u8 v3,.u8 v4] []=some (.bool true,[])
 kernel_rfl
set_option maxRecDepth 100000 in
theorem lifted (os:Os) (started:os.Started) (H:Type) (enc:TypeId×Value→H) :
  ReturnsInHanded {} Tryz.checked os 3 .any (Rows.kaclientPathSpec.pre6 enc Tryz.prog Tryz.f3 Rows.kaclientPathRow.domain false) (Rows.kaclientPathSpec.post enc Tryz.prog Tryz.f3 false true false false):=by
 refine returnsInHanded_of_change (C:=Tryz.checked) own started (by kernel_rfl) Tryz.func3
  (ChangeSpec.witness6 (enc:=enc) (C:=Tryz.checked) false ⟨#[],#[.int .u8 0,.int .u8 0,.int .u8 0,.int .u8 0],[]⟩ 8 (by kernel_rfl) (by kernel_rfl) (by kernel_rfl) (by kernel_rfl)) ?_
 exact law_contract (C:=Tryz.checked) (G:=G) (k:=15) (rt:=4) tab rfl laidOut Tryz.func3 (by decide +kernel) (by kernel_rfl) (by kernel_rfl) Tryz.underlying4 (by kernel_rfl)
  (by
   have hall:(Tryz.f3.params.toList.all fun t=>covers G.ty 20 t&&Tryz.prog.readableRec t&&decide (t<Tryz.prog.types.size))=true:=by kernel_rfl
   intro t ht
   have:=List.all_eq_true.1 hall t ht
   simp only [Bool.and_eq_true,decide_eq_true_eq] at this
   exact ⟨this.1.1,this.1.2,this.2⟩) rfl
  (by
   intro H ds hds
   have hlen:Tryz.f3.params.toList.length=ds.length:=hds.symm
   have h3:ds.length=4:=hds.trans (by kernel_rfl)
   exact (match ds,h3 with | [d0,d1,d2,d3],_=>rfl)) law
theorem and_t {a b:Bool} (h:a=true) (g:b=true):(a&&b)=true:=by rw [h,g];rfl
theorem j0:(Rows.kaclientPathRow.wf (OpenSpec.ofChange Rows.kaclientPathSpec)&&laidOutB Tryz.prog&&mapsRowed Tryz.prog&&Tryz.f3.params.all (Tryz.prog.readableRec ·)&&namedTie Tryz.prog Rows.kaclientPathRow.named Rows.kaclientPathSpec.vars&&(Rows.kaclientPathRow.stops==[])&&(Tryz.prog.stops==[])&&(Rows.kaclientPathRow.knobs==[])&&(Tryz.prog.stopKnobs==[]))=true:=by kernel_rfl
theorem j9:(Rows.kaclientPathRow.inPlace==Tryz.prog.inPlace 3)=true:=by kernel_rfl
theorem j10:(Rows.kaclientPathRow.unfollowed==Tryz.prog.unfollowed 3)=true:=by kernel_rfl
theorem j11:(Rows.kaclientPathRow.recurses==Tryz.prog.recurses 3)=true:=by kernel_rfl
theorem j12:(Rows.kaclientPathRow.named==Tryz.prog.varsNamed 3)=true:=by kernel_rfl
theorem j24:(Tryz.prog.stopsHeard)=true:=by kernel_rfl
theorem j25:(Tryz.prog.mayEnter)=true:=by kernel_rfl
theorem j26:(Rows.kaclientPathRow.lifted==Tryz.prog.liftsFinal)=true:=by kernel_rfl
theorem joined:joinedFacts Tryz.prog 3 Tryz.f3 Rows.kaclientPathSpec Rows.kaclientPathRow=true:=by
 unfold joinedFacts
 exact (and_t (and_t (and_t (and_t (and_t (and_t (and_t (and_t (and_t (and_t (and_t (and_t (and_t (and_t (and_t (and_t (and_t (and_t (and_t (and_t (and_t (and_t (and_t j0 j9) j10) j11) j12) (by kernel_rfl)) (by kernel_rfl)) (by kernel_rfl)) (by kernel_rfl)) (by kernel_rfl)) (by kernel_rfl)) (by kernel_rfl)) (by kernel_rfl)) (by kernel_rfl)) (by kernel_rfl)) (by kernel_rfl)) j24) j25) j26) (by kernel_rfl)) (by kernel_rfl)) (by kernel_rfl)) (by kernel_rfl)) (by kernel_rfl))
theorem over:Rows.kaclientPathRow.holds Tryz.pinned (OpenSpec.ofChange Rows.kaclientPathSpec) :=
 OpenClaim.holds_of_wide 3 Tryz.f3 rfl rfl rfl rfl rfl rfl rfl ⟨rfl,rfl,rfl,rfl,rfl⟩ rfl rfl rfl rfl rfl (by kernel_rfl) Tryz.func3 joined
  (of_decide_eq_true (by kernel_rfl)) (by unfold Func.isWrapper;first | (rw [if_pos (by decide +kernel)];kernel_rfl) | (rw [if_neg (by decide +kernel)];exact ⟨rfl,rfl⟩))
  (fun os started H enc _=>lifted os started H enc)
theorem proved:Rows.KaclientPathSaid:=over
end Go.Proofs.YtaikjfcgemjghaaGreat.kaclientPath
namespace Go.Proofs.YtaikjfcgemjghaaGreat
/-- The statement. -/
theorem kaclientPath_holds:Rows.KaclientPathSaid:=kaclientPath.proved
end Go.Proofs.YtaikjfcgemjghaaGreat
