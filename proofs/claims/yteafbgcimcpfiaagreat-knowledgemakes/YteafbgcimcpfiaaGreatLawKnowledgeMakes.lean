/- Proved: the law 'KnowledgeMakes' returns true for every input, and each argument reads afterwards as it read before. Its conditions are those of the given row alone. -/
import Derived.Test.YteafbgcimcpfiaaGreatTop
set_option linter.all false
open Bool renaming false→Zz
namespace Go.Proofs.YteafbgcimcpfiaaGreat.knowledgeMakes
open Go Go.Abs Go.Proofs
open Go.ChangeShapes Go.WideShapes Go.ChangeAt Go.RowKit
theorem law(l:List AV)(h:qU G.ty Tryz.f7.params.toList l):fW G.uC 18 7 l []=some (.bool true,[]):=by
 obtain⟨i0,q0,l0,GN,JB,rfl,h0⟩:=h;rw[show G.ty 44=some ⟨1,24,.slice 24 Zz,[.cJ],[.sl 7],[]⟩ from by kernel_rfl] at GN;cases GN;obtain⟨adU,v1,P_,rfl,wv1,TH⟩:=gI.sl (i:=⟨1,24,.slice 24 Zz,[.cJ],[.sl 7],[]⟩) (by kernel_rfl) rfl JB;rw[show G.ty 24=some ⟨7,8,.struct [(0,5),(1,5),(2,5),(3,5),(4,5),(5,4),(6,22)],[.u8 0,.u8 0,.u8 0,.u8 0,.u8 0,.bool Zz,.int .u16 0],[.u8,.u8,.u8,.u8,.u8,.bool,.int .u16],[.u8,.u8,.u8,.u8,.u8,.bool,.int .u16]⟩ from by kernel_rfl] at P_;cases P_;have Rc:v1.all Kerb.nf=true:=by
  rw[List.all_eq_true];intro x hx;obtain⟨qv1,YQ,rfl⟩:=TH x hx;have sv2:=gI.struct (i:=⟨7,8,.struct [(0,5),(1,5),(2,5),(3,5),(4,5),(5,4),(6,22)],[.u8 0,.u8 0,.u8 0,.u8 0,.u8 0,.bool Zz,.int .u16 0],[.u8,.u8,.u8,.u8,.u8,.bool,.int .u16],[.u8,.u8,.u8,.u8,.u8,.bool,.int .u16]⟩) (by kernel_rfl) rfl YQ;obtain⟨aco,acx,rfl,Tb,UU⟩:=sv2;obtain⟨v3,rfl⟩:=gI.u8 (i:=⟨1,1,.u8,[.u8 0],[.u8],[.u8]⟩) (by kernel_rfl) rfl Tb;obtain⟨acp,acy,rfl,Tc,UW⟩:=UU;obtain⟨v4,rfl⟩:=gI.u8 (i:=⟨1,1,.u8,[.u8 0],[.u8],[.u8]⟩) (by kernel_rfl) rfl Tc;obtain⟨acq,acz,rfl,Td,UX⟩:=UW;obtain⟨v5,rfl⟩:=gI.u8 (i:=⟨1,1,.u8,[.u8 0],[.u8],[.u8]⟩) (by kernel_rfl) rfl Td;obtain⟨acr,acA,rfl,Te,UY⟩:=UX;obtain⟨v6,rfl⟩:=gI.u8 (i:=⟨1,1,.u8,[.u8 0],[.u8],[.u8]⟩) (by kernel_rfl) rfl Te;obtain⟨acs,acB,rfl,Tf,UZ⟩:=UY;obtain⟨v7,rfl⟩:=gI.u8 (i:=⟨1,1,.u8,[.u8 0],[.u8],[.u8]⟩) (by kernel_rfl) rfl Tf;obtain⟨acu,acC,rfl,Th,U0⟩:=UZ;obtain⟨v8,rfl⟩:=gI.bool (i:=⟨1,1,.bool,[.bool Zz],[.bool],[.bool]⟩) (by kernel_rfl) rfl Th;obtain⟨acv,acD,rfl,Ti,U1⟩:=U0;obtain⟨v9,rfl,wv9⟩:=gI.int (i:=⟨1,2,.int .u16,[.int .u16 0],[.int .u16],[.int .u16]⟩) (by kernel_rfl) rfl Ti;obtain rfl:=U1;have gv9:0<=v9/\v9<=65535:=by
   simpa [Lit.wf,IntKind.min,IntKind.max,IntKind.signed,IntKind.bits] using wv9
  show Kerb.nf (.agg [.u8 v3,.u8 v4,.u8 v5,.u8 v6,.u8 v7,.bool v8,.int .u16 v9])=true;simp only[Kerb.nf,Bool.and_eq_true,Qa2];omega
 obtain⟨i1,q1,l1,OK,wq,rfl,h1⟩:=h0;rw[show G.ty 25=some ⟨1,24,.slice 5 true,[.cJ],[.ff],[]⟩ from by kernel_rfl] at OK;cases OK;obtain⟨v10,rfl,ab8⟩:=gI.bs (i:=⟨1,24,.slice 5 true,[.cJ],[.ff],[]⟩) (by kernel_rfl) rfl wq;obtain⟨i2,q2,l2,n9,sK,rfl,h2⟩:=h1;rw[show G.ty 24=some ⟨7,8,.struct [(0,5),(1,5),(2,5),(3,5),(4,5),(5,4),(6,22)],[.u8 0,.u8 0,.u8 0,.u8 0,.u8 0,.bool Zz,.int .u16 0],[.u8,.u8,.u8,.u8,.u8,.bool,.int .u16],[.u8,.u8,.u8,.u8,.u8,.bool,.int .u16]⟩ from by kernel_rfl] at n9;cases n9;have ZL:=gI.struct (i:=⟨7,8,.struct [(0,5),(1,5),(2,5),(3,5),(4,5),(5,4),(6,22)],[.u8 0,.u8 0,.u8 0,.u8 0,.u8 0,.bool Zz,.int .u16 0],[.u8,.u8,.u8,.u8,.u8,.bool,.int .u16],[.u8,.u8,.u8,.u8,.u8,.bool,.int .u16]⟩) (by kernel_rfl) rfl sK;obtain⟨WS,W8,rfl,QX,R_⟩:=ZL;obtain⟨v12,rfl⟩:=gI.u8 (i:=⟨1,1,.u8,[.u8 0],[.u8],[.u8]⟩) (by kernel_rfl) rfl QX;obtain⟨WT,W9,rfl,QY,Sa⟩:=R_;obtain⟨v13,rfl⟩:=gI.u8 (i:=⟨1,1,.u8,[.u8 0],[.u8],[.u8]⟩) (by kernel_rfl) rfl QY;obtain⟨WU,W_,rfl,QZ,Sb⟩:=Sa;obtain⟨v14,rfl⟩:=gI.u8 (i:=⟨1,1,.u8,[.u8 0],[.u8],[.u8]⟩) (by kernel_rfl) rfl QZ;obtain⟨WV,Xa,rfl,Q0,Sc⟩:=Sb;obtain⟨v15,rfl⟩:=gI.u8 (i:=⟨1,1,.u8,[.u8 0],[.u8],[.u8]⟩) (by kernel_rfl) rfl Q0;obtain⟨WW,Xc,rfl,Q1,Sd⟩:=Sc;obtain⟨v16,rfl⟩:=gI.u8 (i:=⟨1,1,.u8,[.u8 0],[.u8],[.u8]⟩) (by kernel_rfl) rfl Q1;obtain⟨WX,Xe,rfl,Q2,Se⟩:=Sd;obtain⟨v17,rfl⟩:=gI.bool (i:=⟨1,1,.bool,[.bool Zz],[.bool],[.bool]⟩) (by kernel_rfl) rfl Q2;obtain⟨WY,Xi,rfl,Q3,Sf⟩:=Se;obtain⟨VO,rfl,ab9⟩:=gI.int (i:=⟨1,2,.int .u16,[.int .u16 0],[.int .u16],[.int .u16]⟩) (by kernel_rfl) rfl Q3;obtain rfl:=Sf;obtain rfl:=h2;show fW G.uC 18 7 [.sl 7 v1,.bs v10,.agg [.u8 v12,.u8 v13,.u8 v14,.u8 v15,.u8 v16,.bool v17,.int .u16 VO]] []=some (.bool true,[]);have ad0:0<=VO/\VO<=65535:=by
  simpa [Lit.wf,IntKind.min,IntKind.max,IntKind.signed,IntKind.bits] using ab9
 refine Qb1 (b:=az (v1.all Kerb.nf&&decide (0<=VO)&&decide (VO<=65535)) (some (.bool true,[]))) (by kernel_rfl) ?_;have adZ:v10.length<=9223372036854775807:=ab8;rw[ae (by simp only[Rc,Bool.and_eq_true,Qa2,Qa8,Qa7];omega)]
set_option maxRecDepth 100000 in
theorem lifted(os:Os)(started:os.Started)(H:Type)(enc:TypeId×Value->H) :
  ReturnsInHanded {} Tryz.checked os 7 .any (Rows.knowledgeMakesSpec.pre6 enc Tryz.prog Tryz.f7 Rows.knowledgeMakesRow.domain Zz) (Rows.knowledgeMakesSpec.post enc Tryz.prog Tryz.f7 Zz true Zz Zz):=by
 refine returnsInHanded_of_change (C:=Tryz.checked) own started (by kernel_rfl) Tryz.func7
  (ChangeSpec.witness6 (enc:=enc) (C:=Tryz.checked) Zz ⟨#[],#[.slice none 0 0,.slice none 0 0,.agg #[.int .u8 0,.int .u8 0,.int .u8 0,.int .u8 0,.int .u8 0,.bool Zz,.int .u16 0]],[]⟩ 8 (by kernel_rfl) (by kernel_rfl) (by kernel_rfl) (by kernel_rfl)) ?_
 exact C7 (C:=Tryz.checked) (G:=G) (k:=18) (rt:=4) uC rfl laidOut Tryz.func7 (by decide +kernel) (by kernel_rfl) (by kernel_rfl) Tryz.underlying4 (by kernel_rfl)
  (by
   have fK:(Tryz.f7.params.toList.all fun t=>covers G.ty 20 t&&Tryz.prog.readableRec t&&decide (t<Tryz.prog.types.size))=true:=by kernel_rfl
   intro t ht;have:=List.all_eq_true.1 fK t ht;simp only[Bool.and_eq_true,Qa2] at this;exact⟨this.1.1,this.1.2,this.2⟩) rfl
  (by
   intro H ds hds;have hlen:Tryz.f7.params.toList.length=ds.length:=hds.symm;have h3:ds.length=3:=hds.trans (by kernel_rfl);exact(match ds,h3 with | [d0,d1,d2],_=>rfl)) law
theorem iZ{a b:Bool}(h:a=true)(g:b=true):(a&&b)=true:=by rw[h,g];rfl
theorem j0:(Rows.knowledgeMakesRow.wf (OpenSpec.ofChange Rows.knowledgeMakesSpec)&&laidOutB Tryz.prog&&mapsRowed Tryz.prog&&Tryz.f7.params.all (Tryz.prog.readableRec ·)&&namedTie Tryz.prog Rows.knowledgeMakesRow.named Rows.knowledgeMakesSpec.vars&&(Rows.knowledgeMakesRow.stops==[])&&(Tryz.prog.stops==[])&&(Rows.knowledgeMakesRow.knobs==[])&&(Tryz.prog.stopKnobs==[]))=true:=by kernel_rfl
theorem j9:(Rows.knowledgeMakesRow.inPlace==Tryz.prog.inPlace 7)=true:=by kernel_rfl
theorem j10:(Rows.knowledgeMakesRow.unfollowed==Tryz.prog.unfollowed 7)=true:=by kernel_rfl
theorem j11:(Rows.knowledgeMakesRow.recurses==Tryz.prog.recurses 7)=true:=by kernel_rfl
theorem j12:(Rows.knowledgeMakesRow.named==Tryz.prog.varsNamed 7)=true:=by kernel_rfl
theorem j24:(Tryz.prog.stopsHeard)=true:=by kernel_rfl
theorem j25:(Tryz.prog.mayEnter)=true:=by kernel_rfl
theorem j26:(Rows.knowledgeMakesRow.lifted==Tryz.prog.liftsFinal)=true:=by kernel_rfl
theorem RS:joinedFacts Tryz.prog 7 Tryz.f7 Rows.knowledgeMakesSpec Rows.knowledgeMakesRow=true:=by
 unfold joinedFacts;exact(iZ (iZ (iZ (iZ (iZ (iZ (iZ (iZ (iZ (iZ (iZ (iZ (iZ (iZ (iZ (iZ (iZ (iZ (iZ (iZ (iZ (iZ (iZ j0 j9) j10) j11) j12) (by kernel_rfl)) (by kernel_rfl)) (by kernel_rfl)) (by kernel_rfl)) (by kernel_rfl)) (by kernel_rfl)) (by kernel_rfl)) (by kernel_rfl)) (by kernel_rfl)) (by kernel_rfl)) (by kernel_rfl)) j24) j25) j26) (by kernel_rfl)) (by kernel_rfl)) (by kernel_rfl)) (by kernel_rfl)) (by kernel_rfl))
theorem over:Rows.knowledgeMakesRow.holds Tryz.pinned (OpenSpec.ofChange Rows.knowledgeMakesSpec) :=
 OpenClaim.holds_of_wide 7 Tryz.f7 rfl rfl rfl rfl rfl rfl rfl ⟨rfl,rfl,rfl,rfl,rfl⟩ rfl rfl rfl rfl rfl (by kernel_rfl) Tryz.func7 RS
  (Qa3 (by kernel_rfl)) (by unfold Func.isWrapper;first | (rw[Qa1 (by decide +kernel)];kernel_rfl) | (rw[Qa0 (by decide +kernel)];exact⟨rfl,rfl⟩))
  (fun os started H enc _=>lifted os started H enc)
theorem proved:Rows.KnowledgeMakesSaid:=over
end Go.Proofs.YteafbgcimcpfiaaGreat.knowledgeMakes
namespace Go.Proofs.YteafbgcimcpfiaaGreat
/-- The statement. -/
theorem knowledgeMakes_holds:Rows.KnowledgeMakesSaid:=knowledgeMakes.proved
end Go.Proofs.YteafbgcimcpfiaaGreat
