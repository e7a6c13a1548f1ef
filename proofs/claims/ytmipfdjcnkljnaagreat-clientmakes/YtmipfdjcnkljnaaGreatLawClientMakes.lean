/- Proved: the law 'ClientMakes' returns true for every input, and each argument reads afterwards as it read before. Its conditions are those of the given row alone. -/
import Derived.Test.YtmipfdjcnkljnaaGreatTop
namespace Go.Proofs.YtmipfdjcnkljnaaGreat.clientMakes
open Go Go.Abs Go.Proofs
open Go.ChangeShapes Go.WideShapes Go.ChangeAt Go.RowKit
set_option linter.unusedVariables false
set_option linter.unusedSimpArgs false
theorem law (l:List AV) (h:ConfArgs G.ty Tryz.f3.params.toList l):callOf G.tab 15 3 l []=some (.bool true,[]):=by
 obtain ⟨i0,q0,l0,hi0,hc0,rfl,h0⟩:=h
 rw [show G.ty 24=some ⟨4,32,.struct [(0,5),(1,5),(2,4),(3,22)],[.u8 0,.u8 0,.bool false,.nils],[.u8,.u8,.bool,.bsl],[]⟩ from by kernel_rfl] at hi0
 cases hi0
 have sv1:=Conf.struct (i:=⟨4,32,.struct [(0,5),(1,5),(2,4),(3,22)],[.u8 0,.u8 0,.bool false,.nils],[.u8,.u8,.bool,.bsl],[]⟩) (by kernel_rfl) rfl hc0
 obtain ⟨av1_0,bv1_0,rfl,cv1_0,rv1_0⟩:=sv1
 obtain ⟨v2,rfl⟩:=Conf.u8 (i:=⟨1,1,.u8,[.u8 0],[.u8],[.u8]⟩) (by kernel_rfl) rfl cv1_0
 obtain ⟨av1_1,bv1_1,rfl,cv1_1,rv1_1⟩:=rv1_0
 obtain ⟨v3,rfl⟩:=Conf.u8 (i:=⟨1,1,.u8,[.u8 0],[.u8],[.u8]⟩) (by kernel_rfl) rfl cv1_1
 obtain ⟨av1_2,bv1_2,rfl,cv1_2,rv1_2⟩:=rv1_1
 obtain ⟨v4,rfl⟩:=Conf.bool (i:=⟨1,1,.bool,[.bool false],[.bool],[.bool]⟩) (by kernel_rfl) rfl cv1_2
 obtain ⟨av1_3,bv1_3,rfl,cv1_3,rv1_3⟩:=rv1_2
 obtain ⟨v5,rfl,wv5⟩:=Conf.bs (i:=⟨1,24,.slice 5 true,[.nils],[.bsl],[]⟩) (by kernel_rfl) rfl cv1_3
 obtain rfl:=rv1_3
 obtain ⟨i1,q1,l1,hi1,hc1,rfl,h1⟩:=h0
 rw [show G.ty 5=some ⟨1,1,.u8,[.u8 0],[.u8],[.u8]⟩ from by kernel_rfl] at hi1
 cases hi1
 obtain ⟨v6,rfl⟩:=Conf.u8 (i:=⟨1,1,.u8,[.u8 0],[.u8],[.u8]⟩) (by kernel_rfl) rfl hc1
 obtain ⟨i2,q2,l2,hi2,hc2,rfl,h2⟩:=h1
 rw [show G.ty 25=some ⟨1,2,.int .u16,[.int .u16 0],[.int .u16],[.int .u16]⟩ from by kernel_rfl] at hi2
 cases hi2
 obtain ⟨v7,rfl,wv7⟩:=Conf.int (i:=⟨1,2,.int .u16,[.int .u16 0],[.int .u16],[.int .u16]⟩) (by kernel_rfl) rfl hc2
 obtain ⟨i3,q3,l3,hi3,hc3,rfl,h3⟩:=h2
 rw [show G.ty 5=some ⟨1,1,.u8,[.u8 0],[.u8],[.u8]⟩ from by kernel_rfl] at hi3
 cases hi3
 obtain ⟨v8,rfl⟩:=Conf.u8 (i:=⟨1,1,.u8,[.u8 0],[.u8],[.u8]⟩) (by kernel_rfl) rfl hc3
 obtain ⟨i4,q4,l4,hi4,hc4,rfl,h4⟩:=h3
 rw [show G.ty 26=some ⟨1,4,.int .u32,[.int .u32 0],[.int .u32],[.int .u32]⟩ from by kernel_rfl] at hi4
 cases hi4
 obtain ⟨v9,rfl,wv9⟩:=Conf.int (i:=⟨1,4,.int .u32,[.int .u32 0],[.int .u32],[.int .u32]⟩) (by kernel_rfl) rfl hc4
 obtain ⟨i5,q5,l5,hi5,hc5,rfl,h5⟩:=h4
 rw [show G.ty 4=some ⟨1,1,.bool,[.bool false],[.bool],[.bool]⟩ from by kernel_rfl] at hi5
 cases hi5
 obtain ⟨v10,rfl⟩:=Conf.bool (i:=⟨1,1,.bool,[.bool false],[.bool],[.bool]⟩) (by kernel_rfl) rfl hc5
 obtain rfl:=h5
 show callOf G.tab 15 3 [.agg [.u8 v2,.u8 v3,.bool v4,.bs v5],.u8 v6,.int .u16 v7,.u8 v8,.int .u32 v9,.bool v10] []=some (.bool true,[])
 have gv7:0≤v7∧v7≤65535:=by
  simpa [Lit.wf,IntKind.min,IntKind.max,IntKind.signed,IntKind.bits] using wv7
 have gv9:0≤v9∧v9≤4294967295:=by
  simpa [Lit.wf,IntKind.min,IntKind.max,IntKind.signed,IntKind.bits] using wv9
 refine Eq.trans (b:=chk (decide (0≤v7)&&decide (v7≤65535)&&decide (0≤v9)&&decide (v9≤4294967295)) (some (.bool true,[]))) (by kernel_rfl) ?_
 have gv5:v5.length≤9223372036854775807:=wv5
 rw [chk_of (by simp only [Bool.and_eq_true,decide_eq_true_eq,true_and,and_true];omega)]
set_option maxRecDepth 100000 in
theorem lifted (os:Os) (started:os.Started) (H:Type) (enc:TypeId×Value→H) :
  ReturnsInHanded {} Tryz.checked os 3 .any (Rows.clientMakesSpec.pre6 enc Tryz.prog Tryz.f3 Rows.clientMakesRow.domain false) (Rows.clientMakesSpec.post enc Tryz.prog Tryz.f3 false true false false):=by
 refine returnsInHanded_of_change (C:=Tryz.checked) own started (by kernel_rfl) Tryz.func3
  (ChangeSpec.witness6 (enc:=enc) (C:=Tryz.checked) false ⟨#[],#[.agg #[.int .u8 0,.int .u8 0,.bool false,.slice none 0 0],.int .u8 0,.int .u16 0,.int .u8 0,.int .u32 0,.bool false],[]⟩ 8 (by kernel_rfl) (by kernel_rfl) (by kernel_rfl) (by kernel_rfl)) ?_
 exact law_contract (C:=Tryz.checked) (G:=G) (k:=15) (rt:=4) tab rfl laidOut Tryz.func3 (by decide +kernel) (by kernel_rfl) (by kernel_rfl) Tryz.underlying4 (by kernel_rfl)
  (by
   have hall:(Tryz.f3.params.toList.all fun t=>covers G.ty 20 t&&Tryz.prog.readableRec t&&decide (t<Tryz.prog.types.size))=true:=by kernel_rfl
   intro t ht
   have:=List.all_eq_true.1 hall t ht
   simp only [Bool.and_eq_true,decide_eq_true_eq] at this
   exact ⟨this.1.1,this.1.2,this.2⟩) rfl
  (by
   intro H ds hds
   have hlen:Tryz.f3.params.toList.length=ds.length:=hds.symm
   have h3:ds.length=6:=hds.trans (by kernel_rfl)
   exact (match ds,h3 with | [d0,d1,d2,d3,d4,d5],_=>rfl)) law
theorem and_t {a b:Bool} (h:a=true) (g:b=true):(a&&b)=true:=by rw [h,g];rfl
theorem j0:(Rows.clientMakesRow.wf (OpenSpec.ofChange Rows.clientMakesSpec)&&laidOutB Tryz.prog&&mapsRowed Tryz.prog&&Tryz.f3.params.all (Tryz.prog.readableRec ·)&&namedTie Tryz.prog Rows.clientMakesRow.named Rows.clientMakesSpec.vars&&(Rows.clientMakesRow.stops==[])&&(Tryz.prog.stops==[])&&(Rows.clientMakesRow.knobs==[])&&(Tryz.prog.stopKnobs==[]))=true:=by kernel_rfl
theorem j9:(Rows.clientMakesRow.inPlace==Tryz.prog.inPlace 3)=true:=by kernel_rfl
theorem j10:(Rows.clientMakesRow.unfollowed==Tryz.prog.unfollowed 3)=true:=by kernel_rfl
theorem j11:(Rows.clientMakesRow.recurses==Tryz.prog.recurses 3)=true:=by kernel_rfl
theorem j12:(Rows.clientMakesRow.named==Tryz.prog.varsNamed 3)=true:=by kernel_rfl
theorem j24:(Tryz.prog.stopsHeard)=true:=by kernel_rfl
theorem j25:(Tryz.prog.mayEnter)=true:=by kernel_rfl
theorem j26:(Rows.clientMakesRow.lifted==Tryz.prog.liftsFinal)=true:=by kernel_rfl
theorem joined:joinedFacts Tryz.prog 3 Tryz.f3 Rows.clientMakesSpec Rows.clientMakesRow=true:=by
 unfold joinedFacts
 exact (and_t (and_t (and_t (and_t (and_t (and_t (and_t (and_t (and_t (and_t (and_t (and_t (and_t (and_t (and_t (and_t (and_t (and_t (and_t (and_t (and_t (and_t (and_t j0 j9) j10) j11) j12) (by kernel_rfl)) (by kernel_rfl)) (by kernel_rfl)) (by kernel_rfl)) (by kernel_rfl)) (by kernel_rfl)) (by kernel_rfl)) (by kernel_rfl)) (by kernel_rfl)) (by kernel_rfl)) (by kernel_rfl)) j24) j25) j26) (by kernel_rfl)) (by kernel_rfl)) (by kernel_rfl)) (by kernel_rfl)) (by kernel_rfl))
theorem over:Rows.clientMakesRow.holds Tryz.pinned (OpenSpec.ofChange Rows.clientMakesSpec) :=
 OpenClaim.holds_of_wide 3 Tryz.f3 rfl rfl rfl rfl rfl rfl rfl ⟨rfl,rfl,rfl,rfl,rfl⟩ rfl rfl rfl rfl rfl (by kernel_rfl) Tryz.func3 joined
  (of_decide_eq_true (by kernel_rfl)) (by unfold Func.isWrapper;first | (rw [if_pos (by decide +kernel)];kernel_rfl) | (rw [if_neg (by decide +kernel)];exact ⟨rfl,rfl⟩))
  (fun os started H enc _=>lifted os started H enc)
theorem proved:Rows.ClientMakesSaid:=over
end Go.Proofs.YtmipfdjcnkljnaaGreat.clientMakes
namespace Go.Proofs.YtmipfdjcnkljnaaGreat
/-- The statement. -/
theorem clientMakes_holds:Rows.ClientMakesSaid:=clientMakes.proved
end Go.Proofs.YtmipfdjcnkljnaaGreat
