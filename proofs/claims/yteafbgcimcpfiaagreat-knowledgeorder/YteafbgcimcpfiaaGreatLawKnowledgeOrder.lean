/- Proved: the law 'KnowledgeOrder' returns true for every input, and each argument reads afterwards as it read before. Its conditions are those of the given row alone. -/
import Derived.Test.YteafbgcimcpfiaaGreatTop
set_option linter.all false
namespace Go.Proofs.YteafbgcimcpfiaaGreat.knowledgeOrder
open Go Go.Abs Go.Proofs
open Go.ChangeShapes Go.WideShapes Go.ChangeAt Go.RowKit
theorem law(l:List AV)(h:qR G.ty Tryz.f4.params.toList l):fW G.uq 18 4 l []=some (.bool true,[]):=by
 obtain⟨i0,q0,l0,GL,JD,rfl,h0⟩:=h;rw[show G.ty 44=some ⟨1,24,.slice 24 false,[.cK],[.sl 7],[]⟩ from by kernel_rfl] at GL;cases GL;obtain⟨adt,v1,Qd,rfl,wv1,Tv⟩:=iJ.sl (i:=⟨1,24,.slice 24 false,[.cK],[.sl 7],[]⟩) (by kernel_rfl) rfl JD;rw[show G.ty 24=some ⟨7,8,.struct [(0,5),(1,5),(2,5),(3,5),(4,5),(5,4),(6,22)],[.u8 0,.u8 0,.u8 0,.u8 0,.u8 0,.bool false,.int .u16 0],[.u8,.u8,.u8,.u8,.u8,.bool,.int .u16],[.u8,.u8,.u8,.u8,.u8,.bool,.int .u16]⟩ from by kernel_rfl] at Qd;cases Qd;have LO:v1.all Kerb.ni=true:=by
  rw[List.all_eq_true];intro x hx;obtain⟨qv1,Ye,rfl⟩:=Tv x hx;have sv2:=iJ.struct (i:=⟨7,8,.struct [(0,5),(1,5),(2,5),(3,5),(4,5),(5,4),(6,22)],[.u8 0,.u8 0,.u8 0,.u8 0,.u8 0,.bool false,.int .u16 0],[.u8,.u8,.u8,.u8,.u8,.bool,.int .u16],[.u8,.u8,.u8,.u8,.u8,.bool,.int .u16]⟩) (by kernel_rfl) rfl Ye;obtain⟨abX,ab5,rfl,S2,UI⟩:=sv2;obtain⟨v3,rfl⟩:=iJ.u8 (i:=⟨1,1,.u8,[.u8 0],[.u8],[.u8]⟩) (by kernel_rfl) rfl S2;obtain⟨abY,ab6,rfl,S3,UJ⟩:=UI;obtain⟨v4,rfl⟩:=iJ.u8 (i:=⟨1,1,.u8,[.u8 0],[.u8],[.u8]⟩) (by kernel_rfl) rfl S3;obtain⟨abZ,ab7,rfl,S4,UK⟩:=UJ;obtain⟨v5,rfl⟩:=iJ.u8 (i:=⟨1,1,.u8,[.u8 0],[.u8],[.u8]⟩) (by kernel_rfl) rfl S4;obtain⟨ab0,ab8,rfl,S5,UL⟩:=UK;obtain⟨v6,rfl⟩:=iJ.u8 (i:=⟨1,1,.u8,[.u8 0],[.u8],[.u8]⟩) (by kernel_rfl) rfl S5;obtain⟨ab1,ab9,rfl,S6,UM⟩:=UL;obtain⟨v7,rfl⟩:=iJ.u8 (i:=⟨1,1,.u8,[.u8 0],[.u8],[.u8]⟩) (by kernel_rfl) rfl S6;obtain⟨ab2,ab_,rfl,S7,UN⟩:=UM;obtain⟨v8,rfl⟩:=iJ.bool (i:=⟨1,1,.bool,[.bool false],[.bool],[.bool]⟩) (by kernel_rfl) rfl S7;obtain⟨ab3,ab',rfl,S8,UO⟩:=UN;obtain⟨v9,rfl,wv9⟩:=iJ.int (i:=⟨1,2,.int .u16,[.int .u16 0],[.int .u16],[.int .u16]⟩) (by kernel_rfl) rfl S8;obtain rfl:=UO;have gv9:0<=v9/\v9<=65535:=by
   simpa [Lit.wf,IntKind.min,IntKind.max,IntKind.signed,IntKind.bits] using wv9
  show Kerb.ni (.agg [.u8 v3,.u8 v4,.u8 v5,.u8 v6,.u8 v7,.bool v8,.int .u16 v9])=true;simp only[Kerb.ni,Bool.and_eq_true,Qa2];omega
 obtain⟨i1,q1,l1,OP,wc,rfl,h1⟩:=h0;rw[show G.ty 25=some ⟨1,24,.slice 5 true,[.cK],[.fl],[]⟩ from by kernel_rfl] at OP;cases OP;obtain⟨v10,rfl,abJ⟩:=iJ.bs (i:=⟨1,24,.slice 5 true,[.cK],[.fl],[]⟩) (by kernel_rfl) rfl wc;obtain⟨i2,q2,l2,mX,sE,rfl,h2⟩:=h1;rw[show G.ty 5=some ⟨1,1,.u8,[.u8 0],[.u8],[.u8]⟩ from by kernel_rfl] at mX;cases mX;obtain⟨v11,rfl⟩:=iJ.u8 (i:=⟨1,1,.u8,[.u8 0],[.u8],[.u8]⟩) (by kernel_rfl) rfl sE;obtain rfl:=h2;show fW G.uq 18 4 [.sl 7 v1,.bs v10,.u8 v11] []=some (.bool true,[]);refine Qb1 (b:=az (v1.all Kerb.ni) (some (.bool true,[]))) (by kernel_rfl) ?_;have ady:v10.length<=9223372036854775807:=abJ;rw[ae (by first | exact LO | simp only[LO,Bool.and_self])]
set_option maxRecDepth 100000 in
theorem lifted(os:Os)(started:os.Started)(H:Type)(enc:TypeId×Value->H) :
  ReturnsInHanded {} Tryz.checked os 4 .any (Rows.knowledgeOrderSpec.pre6 enc Tryz.prog Tryz.f4 Rows.knowledgeOrderRow.domain false) (Rows.knowledgeOrderSpec.post enc Tryz.prog Tryz.f4 false true false false):=by
 refine returnsInHanded_of_change (C:=Tryz.checked) own started (by kernel_rfl) Tryz.func4
  (ChangeSpec.witness6 (enc:=enc) (C:=Tryz.checked) false ⟨#[],#[.slice none 0 0,.slice none 0 0,.int .u8 0],[]⟩ 8 (by kernel_rfl) (by kernel_rfl) (by kernel_rfl) (by kernel_rfl)) ?_
 exact C5 (C:=Tryz.checked) (G:=G) (k:=18) (rt:=4) uq rfl laidOut Tryz.func4 (by decide +kernel) (by kernel_rfl) (by kernel_rfl) Tryz.underlying4 (by kernel_rfl)
  (by
   have fK:(Tryz.f4.params.toList.all fun t=>covers G.ty 20 t&&Tryz.prog.readableRec t&&decide (t<Tryz.prog.types.size))=true:=by kernel_rfl
   intro t ht;have:=List.all_eq_true.1 fK t ht;simp only[Bool.and_eq_true,Qa2] at this;exact⟨this.1.1,this.1.2,this.2⟩) rfl
  (by
   intro H ds hds;have hlen:Tryz.f4.params.toList.length=ds.length:=hds.symm;have h3:ds.length=3:=hds.trans (by kernel_rfl);exact(match ds,h3 with | [d0,d1,d2],_=>rfl)) law
theorem ja{a b:Bool}(h:a=true)(g:b=true):(a&&b)=true:=by rw[h,g];rfl
theorem j0:(Rows.knowledgeOrderRow.wf (OpenSpec.ofChange Rows.knowledgeOrderSpec)&&laidOutB Tryz.prog&&mapsRowed Tryz.prog&&Tryz.f4.params.all (Tryz.prog.readableRec ·)&&namedTie Tryz.prog Rows.knowledgeOrderRow.named Rows.knowledgeOrderSpec.vars&&(Rows.knowledgeOrderRow.stops==[])&&(Tryz.prog.stops==[])&&(Rows.knowledgeOrderRow.knobs==[])&&(Tryz.prog.stopKnobs==[]))=true:=by kernel_rfl
theorem j9:(Rows.knowledgeOrderRow.inPlace==Tryz.prog.inPlace 4)=true:=by kernel_rfl
theorem j10:(Rows.knowledgeOrderRow.unfollowed==Tryz.prog.unfollowed 4)=true:=by kernel_rfl
theorem j11:(Rows.knowledgeOrderRow.recurses==Tryz.prog.recurses 4)=true:=by kernel_rfl
theorem j12:(Rows.knowledgeOrderRow.named==Tryz.prog.varsNamed 4)=true:=by kernel_rfl
theorem j24:(Tryz.prog.stopsHeard)=true:=by kernel_rfl
theorem j25:(Tryz.prog.mayEnter)=true:=by kernel_rfl
theorem j26:(Rows.knowledgeOrderRow.lifted==Tryz.prog.liftsFinal)=true:=by kernel_rfl
theorem RO:joinedFacts Tryz.prog 4 Tryz.f4 Rows.knowledgeOrderSpec Rows.knowledgeOrderRow=true:=by
 unfold joinedFacts;exact(ja (ja (ja (ja (ja (ja (ja (ja (ja (ja (ja (ja (ja (ja (ja (ja (ja (ja (ja (ja (ja (ja (ja j0 j9) j10) j11) j12) (by kernel_rfl)) (by kernel_rfl)) (by kernel_rfl)) (by kernel_rfl)) (by kernel_rfl)) (by kernel_rfl)) (by kernel_rfl)) (by kernel_rfl)) (by kernel_rfl)) (by kernel_rfl)) (by kernel_rfl)) j24) j25) j26) (by kernel_rfl)) (by kernel_rfl)) (by kernel_rfl)) (by kernel_rfl)) (by kernel_rfl))
theorem over:Rows.knowledgeOrderRow.holds Tryz.pinned (OpenSpec.ofChange Rows.knowledgeOrderSpec) :=
 OpenClaim.holds_of_wide 4 Tryz.f4 rfl rfl rfl rfl rfl rfl rfl ⟨rfl,rfl,rfl,rfl,rfl⟩ rfl rfl rfl rfl rfl (by kernel_rfl) Tryz.func4 RO
  (Qa3 (by kernel_rfl)) (by unfold Func.isWrapper;first | (rw[Qa1 (by decide +kernel)];kernel_rfl) | (rw[Qa0 (by decide +kernel)];exact⟨rfl,rfl⟩))
  (fun os started H enc _=>lifted os started H enc)
theorem proved:Rows.KnowledgeOrderSaid:=over
end Go.Proofs.YteafbgcimcpfiaaGreat.knowledgeOrder
namespace Go.Proofs.YteafbgcimcpfiaaGreat
/-- The statement. -/
theorem knowledgeOrder_holds:Rows.KnowledgeOrderSaid:=knowledgeOrder.proved
end Go.Proofs.YteafbgcimcpfiaaGreat
