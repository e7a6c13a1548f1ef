/- Proved: the law 'KaserverPasswords' returns true for every input, and each argument reads afterwards as it read before. Its conditions are those of the given row alone. -/
import Derived.Test.YtaikjfcgemjghaaGreatTop
namespace Go.Proofs.YtaikjfcgemjghaaGreat.kaserverPasswords
open Go Go.Abs Go.Proofs
open Go.ChangeShapes Go.WideShapes Go.ChangeAt Go.RowKit
set_option linter.unusedVariables false
set_option linter.unusedSimpArgs false
theorem law (l:List AV) (h:ConfArgs G.ty Tryz.f8.params.toList l):callOf G.tab 18 8 l []=some (.bool true,[]):=by
 obtain ⟨i0,q0,l0,hi0,hc0,rfl,h0⟩:=h
 rw [show G.ty 5=some ⟨1,1,.u8,[.u8 0],[.u8],[.u8]⟩ from by kernel_rfl] at hi0
 cases hi0
 obtain ⟨v1,rfl⟩:=Conf.u8 (i:=⟨1,1,.u8,[.u8 0],[.u8],[.u8]⟩) (by kernel_rfl) rfl hc0
 obtain ⟨i1,q1,l1,hi1,hc1,rfl,h1⟩:=h0
 rw [show G.ty 5=some ⟨1,1,.u8,[.u8 0],[.u8],[.u8]⟩ from by kernel_rfl] at hi1
 cases hi1
 obtain ⟨v2,rfl⟩:=Conf.u8 (i:=⟨1,1,.u8,[.u8 0],[.u8],[.u8]⟩) (by kernel_rfl) rfl hc1
 obtain ⟨i2,q2,l2,hi2,hc2,rfl,h2⟩:=h1
 rw [show G.ty 5=some ⟨1,1,.u8,[.u8 0],[.u8],[.u8]⟩ from by kernel_rfl] at hi2
 cases hi2
 obtain ⟨v3,rfl⟩:=Conf.u8 (i:=⟨1,1,.u8,[.u8 0],[.u8],[.u8]⟩) (by kernel_rfl) rfl hc2
 obtain rfl:=h2
 show callOf G.tab 18 8 [.u8 v1,.u8 v2,.u8 v3] []=some (.bool true,[])
 kernel_rfl
set_option maxRecDepth 100000 in
theorem lifted (os:Os) (started:os.Started) (H:Type) (enc:TypeId×Value→H) :
  ReturnsInHanded {} Tryz.checked os 8 .any (Rows.kaserverPasswordsSpec.pre6 enc Tryz.prog Tryz.f8 Rows.kaserverPasswordsRow.domain false) (Rows.kaserverPasswordsSpec.post enc Tryz.prog Tryz.f8 false true false false):=by
 refine returnsInHanded_of_change (C:=Tryz.checked) own started (by kernel_rfl) Tryz.func8
  (ChangeSpec.witness6 (enc:=enc) (C:=Tryz.checked) false ⟨#[],#[.int .u8 0,.int .u8 0,.int .u8 0],[]⟩ 8 (by kernel_rfl) (by kernel_rfl) (by kernel_rfl) (by kernel_rfl)) ?_
 exact law_contract (C:=Tryz.checked) (G:=G) (k:=18) (rt:=4) tab rfl laidOut Tryz.func8 (by decide +kernel) (by kernel_rfl) (by kernel_rfl) Tryz.underlying4 (by kernel_rfl)
  (by
   have hall:(Tryz.f8.params.toList.all fun t=>covers G.ty 20 t&&Tryz.prog.readableRec t&&decide (t<Tryz.prog.types.size))=true:=by kernel_rfl
   intro t ht
   have:=List.all_eq_true.1 hall t ht
   simp only [Bool.and_eq_true,decide_eq_true_eq] at this
   exact ⟨this.1.1,this.1.2,this.2⟩) rfl
  (by
   intro H ds hds
   have hlen:Tryz.f8.params.toList.length=ds.length:=hds.symm
   have h3:ds.length=3:=hds.trans (by kernel_rfl)
   exact (match ds,h3 with | [d0,d1,d2],_=>rfl)) law
theorem and_t {a b:Bool} (h:a=true) (g:b=true):(a&&b)=true:=by rw [h,g];rfl
theorem j0:(Rows.kaserverPasswordsRow.wf (OpenSpec.ofChange Rows.kaserverPasswordsSpec)&&laidOutB Tryz.prog&&mapsRowed Tryz.prog&&Tryz.f8.params.all (Tryz.prog.readableRec ·)&&namedTie Tryz.prog Rows.kaserverPasswordsRow.named Rows.kaserverPasswordsSpec.vars&&(Rows.kaserverPasswordsRow.stops==[])&&(Tryz.prog.stops==[])&&(Rows.kaserverPasswordsRow.knobs==[])&&(Tryz.prog.stopKnobs==[]))=true:=by kernel_rfl
theorem j9:(Rows.kaserverPasswordsRow.inPlace==Tryz.prog.inPlace 8)=true:=by kernel_rfl
theorem j10:(Rows.kaserverPasswordsRow.unfollowed==Tryz.prog.unfollowed 8)=true:=by kernel_rfl
theorem j11:(Rows.kaserverPasswordsRow.recurses==Tryz.prog.recurses 8)=true:=by kernel_rfl
theorem j12:(Rows.kaserverPasswordsRow.named==Tryz.prog.varsNamed 8)=true:=by kernel_rfl
theorem j24:(Tryz.prog.stopsHeard)=true:=by kernel_rfl
theorem j25:(Tryz.prog.mayEnter)=true:=by kernel_rfl
theorem j26:(Rows.kaserverPasswordsRow.lifted==Tryz.prog.liftsFinal)=true:=by kernel_rfl
theorem joined:joinedFacts Tryz.prog 8 Tryz.f8 Rows.kaserverPasswordsSpec Rows.kaserverPasswordsRow=true:=by
 unfold joinedFacts
 exact (and_t (and_t (and_t (and_t (and_t (and_t (and_t (and_t (and_t (and_t (and_t (and_t (and_t (and_t (and_t (and_t (and_t (and_t (and_t (and_t (and_t (and_t (and_t j0 j9) j10) j11) j12) (by kernel_rfl)) (by kernel_rfl)) (by kernel_rfl)) (by kernel_rfl)) (by kernel_rfl)) (by kernel_rfl)) (by kernel_rfl)) (by kernel_rfl)) (by kernel_rfl)) (by kernel_rfl)) (by kernel_rfl)) j24) j25) j26) (by kernel_rfl)) (by kernel_rfl)) (by kernel_rfl)) (by kernel_rfl)) (by kernel_rfl))
theorem over:Rows.kaserverPasswordsRow.holds Tryz.pinned (OpenSpec.ofChange Rows.kaserverPasswordsSpec) :=
 OpenClaim.holds_of_wide 8 Tryz.f8 rfl rfl rfl rfl rfl rfl rfl ⟨rfl,rfl,rfl,rfl,rfl⟩ rfl rfl rfl rfl rfl (by kernel_rfl) Tryz.func8 joined
  (of_decide_eq_true (by kernel_rfl)) (by unfold Func.isWrapper;first | (rw [if_pos (by decide +kernel)];kernel_rfl) | (rw [if_neg (by decide +kernel)];exact ⟨rfl,rfl⟩))
  (fun os started H enc _=>lifted os started H enc)
theorem proved:Rows.KaserverPasswordsSaid:=over
end Go.Proofs.YtaikjfcgemjghaaGreat.kaserverPasswords
namespace Go.Proofs.YtaikjfcgemjghaaGreat
/-- The statement. -/
theorem kaserverPasswords_holds:Rows.KaserverPasswordsSaid:=kaserverPasswords.proved
end Go.Proofs.YtaikjfcgemjghaaGreat
