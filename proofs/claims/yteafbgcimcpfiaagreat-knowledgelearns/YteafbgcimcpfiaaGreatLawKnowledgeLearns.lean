/- Proved: the law 'KnowledgeLearns' returns true for every input, and each argument reads afterwards as it read before. Its conditions are those of the given row alone. -/
import Derived.Test.YteafbgcimcpfiaaGreatTop
set_option linter.all false
open Go.IntKind renaming u64->AT
open Bool renaming false->Zz
namespace Go.Proofs.YteafbgcimcpfiaaGreat.knowledgeLearns
open Go Go.Abs Go.Proofs
open Go.ChangeShapes Go.WideShapes Go.ChangeAt Go.RowKit
theorem law(l:List AV)(h:tO G.ty Tryz.f6.params.toList l):ic G.xd 18 6 l []=some (.bool true,[]):=by
 obtain⟨i0,q0,l0,JQ,M1,rfl,h0⟩:=h;rw[show G.ty 44=some ⟨1,24,.slice 24 Zz,[.dq],[.sl 7],[]⟩ from by kernel_rfl] at JQ;cases JQ;obtain⟨aiy,v1,T7,rfl,wv1,Y0⟩:=iK.sl (i:=⟨1,24,.slice 24 Zz,[.dq],[.sl 7],[]⟩) (by kernel_rfl) rfl M1;rw[show G.ty 24=some ⟨7,8,.struct [(0,5),(1,5),(2,5),(3,5),(4,5),(5,4),(6,22)],[.u8 0,.u8 0,.u8 0,.u8 0,.u8 0,.bool Zz,.int .u16 0],[.u8,.u8,.u8,.u8,.u8,.bool,.int .u16],[.u8,.u8,.u8,.u8,.u8,.bool,.int .u16]⟩ from by kernel_rfl] at T7;cases T7;have U8:v1.all Kerb.qH=true:=by
  rw[List.all_eq_true];intro x hx;obtain⟨qv1,adz,rfl⟩:=Y0 x hx;have sv2:=iK.struct (i:=⟨7,8,.struct [(0,5),(1,5),(2,5),(3,5),(4,5),(5,4),(6,22)],[.u8 0,.u8 0,.u8 0,.u8 0,.u8 0,.bool Zz,.int .u16 0],[.u8,.u8,.u8,.u8,.u8,.bool,.int .u16],[.u8,.u8,.u8,.u8,.u8,.bool,.int .u16]⟩) (by kernel_rfl) rfl adz;obtain⟨ag5,ahb,rfl,Yc,aao⟩:=sv2;obtain⟨v3,rfl⟩:=iK.u8 (i:=⟨1,1,.u8,[.u8 0],[.u8],[.u8]⟩) (by kernel_rfl) rfl Yc;obtain⟨ag6,ahc,rfl,Ye,aap⟩:=aao;obtain⟨v4,rfl⟩:=iK.u8 (i:=⟨1,1,.u8,[.u8 0],[.u8],[.u8]⟩) (by kernel_rfl) rfl Ye;obtain⟨ag7,ahd,rfl,Yi,aaq⟩:=aap;obtain⟨v5,rfl⟩:=iK.u8 (i:=⟨1,1,.u8,[.u8 0],[.u8],[.u8]⟩) (by kernel_rfl) rfl Yi;obtain⟨ag8,ahe,rfl,Yl,aar⟩:=aaq;obtain⟨v6,rfl⟩:=iK.u8 (i:=⟨1,1,.u8,[.u8 0],[.u8],[.u8]⟩) (by kernel_rfl) rfl Yl;obtain⟨ag9,ahf,rfl,Yo,aas⟩:=aar;obtain⟨v7,rfl⟩:=iK.u8 (i:=⟨1,1,.u8,[.u8 0],[.u8],[.u8]⟩) (by kernel_rfl) rfl Yo;obtain⟨ag_,ahg,rfl,Yr,aat⟩:=aas;obtain⟨v8,rfl⟩:=iK.bool (i:=⟨1,1,.bool,[.bool Zz],[.bool],[.bool]⟩) (by kernel_rfl) rfl Yr;obtain⟨ag',ahh,rfl,Ys,aau⟩:=aat;obtain⟨v9,rfl,wv9⟩:=iK.int (i:=⟨1,2,.int .u16,[.int .u16 0],[.int .u16],[.int .u16]⟩) (by kernel_rfl) rfl Ys;obtain rfl:=aau;have gv9:0<=v9/\v9<=65535:=by
   simpa [Lit.wf,IntKind.min,IntKind.max,IntKind.signed,IntKind.bits] using wv9
  show Kerb.qH (.agg [.u8 v3,.u8 v4,.u8 v5,.u8 v6,.u8 v7,.bool v8,.int .u16 v9])=true;simp only[Kerb.qH,Bool.and_eq_true,Qa2];omega
 obtain⟨i1,q1,l1,Ss,yV,rfl,h1⟩:=h0;rw[show G.ty 25=some ⟨1,24,.slice 5 true,[.dq],[.eV],[]⟩ from by kernel_rfl] at Ss;cases Ss;obtain⟨v10,rfl,agT⟩:=iK.bs (i:=⟨1,24,.slice 5 true,[.dq],[.eV],[]⟩) (by kernel_rfl) rfl yV;obtain⟨i2,q2,l2,jz,uA,rfl,h2⟩:=h1;rw[show G.ty 24=some ⟨7,8,.struct [(0,5),(1,5),(2,5),(3,5),(4,5),(5,4),(6,22)],[.u8 0,.u8 0,.u8 0,.u8 0,.u8 0,.bool Zz,.int .u16 0],[.u8,.u8,.u8,.u8,.u8,.bool,.int .u16],[.u8,.u8,.u8,.u8,.u8,.bool,.int .u16]⟩ from by kernel_rfl] at jz;cases jz;have aeh:=iK.struct (i:=⟨7,8,.struct [(0,5),(1,5),(2,5),(3,5),(4,5),(5,4),(6,22)],[.u8 0,.u8 0,.u8 0,.u8 0,.u8 0,.bool Zz,.int .u16 0],[.u8,.u8,.u8,.u8,.u8,.bool,.int .u16],[.u8,.u8,.u8,.u8,.u8,.bool,.int .u16]⟩) (by kernel_rfl) rfl uA;obtain⟨abT,aca,rfl,US,WB⟩:=aeh;obtain⟨v12,rfl⟩:=iK.u8 (i:=⟨1,1,.u8,[.u8 0],[.u8],[.u8]⟩) (by kernel_rfl) rfl US;obtain⟨abU,acb,rfl,UT,WC⟩:=WB;obtain⟨v13,rfl⟩:=iK.u8 (i:=⟨1,1,.u8,[.u8 0],[.u8],[.u8]⟩) (by kernel_rfl) rfl UT;obtain⟨abV,acd,rfl,UU,WD⟩:=WC;obtain⟨v14,rfl⟩:=iK.u8 (i:=⟨1,1,.u8,[.u8 0],[.u8],[.u8]⟩) (by kernel_rfl) rfl UU;obtain⟨abW,ace,rfl,UW,WE⟩:=WD;obtain⟨v15,rfl⟩:=iK.u8 (i:=⟨1,1,.u8,[.u8 0],[.u8],[.u8]⟩) (by kernel_rfl) rfl UW;obtain⟨abX,acf,rfl,UX,WG⟩:=WE;obtain⟨v16,rfl⟩:=iK.u8 (i:=⟨1,1,.u8,[.u8 0],[.u8],[.u8]⟩) (by kernel_rfl) rfl UX;obtain⟨abY,acg,rfl,UY,WH⟩:=WG;obtain⟨v17,rfl⟩:=iK.bool (i:=⟨1,1,.bool,[.bool Zz],[.bool],[.bool]⟩) (by kernel_rfl) rfl UY;obtain⟨abZ,ach,rfl,UZ,WI⟩:=WH;obtain⟨v18,rfl,agU⟩:=iK.int (i:=⟨1,2,.int .u16,[.int .u16 0],[.int .u16],[.int .u16]⟩) (by kernel_rfl) rfl UZ;obtain rfl:=WI;obtain⟨i3,q3,l3,XB,Xr,rfl,h3⟩:=h2;rw[show G.ty 25=some ⟨1,24,.slice 5 true,[.dq],[.eV],[]⟩ from by kernel_rfl] at XB;cases XB;obtain⟨v19,rfl,agV⟩:=iK.bs (i:=⟨1,24,.slice 5 true,[.dq],[.eV],[]⟩) (by kernel_rfl) rfl Xr;obtain⟨i4,q4,l4,hi4,Xs,rfl,h4⟩:=h3;rw[show G.ty 27=some ⟨1,8,.int AT,[.int AT 0],[.int AT],[.int AT]⟩ from by kernel_rfl] at hi4;cases hi4;obtain⟨v20,rfl,agW⟩:=iK.int (i:=⟨1,8,.int AT,[.int AT 0],[.int AT],[.int AT]⟩) (by kernel_rfl) rfl Xs;obtain rfl:=h4;show ic G.xd 18 6 [.sl 7 v1,.bs v10,.agg [.u8 v12,.u8 v13,.u8 v14,.u8 v15,.u8 v16,.bool v17,.int .u16 v18],.bs v19,.int AT v20] []=some (.bool true,[]);have aiF:0<=v18/\v18<=65535:=by
  simpa [Lit.wf,IntKind.min,IntKind.max,IntKind.signed,IntKind.bits] using agU
 have aiH:0<=v20/\v20<=18446744073709551615:=by
  simpa [Lit.wf,IntKind.min,IntKind.max,IntKind.signed,IntKind.bits] using agW
 refine Qb3 (b:=aB (v1.all Kerb.qH&&decide (0<=v18)&&decide (v18<=65535)&&decide (0<=v20)&&decide (v20<18446744073709551616)) (some (.bool true,[]))) (by kernel_rfl) ?_;have aiE:v10.length<=9223372036854775807:=agT;have aiG:v19.length<=9223372036854775807:=agV;rw[ae (by simp only[U8,Bool.and_eq_true,Qa2,Qa9,Qa8];omega)]
set_option maxRecDepth 100000 in
theorem lifted(os:Os)(started:os.Started)(H:Type)(enc:TypeId×Value->H) :
  ReturnsInHanded {} Tryz.checked os 6 .any (Rows.knowledgeLearnsSpec.pre6 enc Tryz.prog Tryz.f6 Rows.knowledgeLearnsRow.domain Zz) (Rows.knowledgeLearnsSpec.post enc Tryz.prog Tryz.f6 Zz true Zz Zz):=by
 refine returnsInHanded_of_change (C:=Tryz.checked) own started (by kernel_rfl) Tryz.func6
  (ChangeSpec.witness6 (enc:=enc) (C:=Tryz.checked) Zz ⟨#[],#[.slice none 0 0,.slice none 0 0,.agg #[.int .u8 0,.int .u8 0,.int .u8 0,.int .u8 0,.int .u8 0,.bool Zz,.int .u16 0],.slice none 0 0,.int AT 0],[]⟩ 8 (by kernel_rfl) (by kernel_rfl) (by kernel_rfl) (by kernel_rfl)) ?_
 exact FI (C:=Tryz.checked) (G:=G) (k:=18) (rt:=4) xd rfl laidOut Tryz.func6 (by decide +kernel) (by kernel_rfl) (by kernel_rfl) Tryz.underlying4 (by kernel_rfl)
  (by
   have ig:(Tryz.f6.params.toList.all λt=>covers G.ty 20 t&&Tryz.prog.readableRec t&&decide (t<Tryz.prog.types.size))=true:=by kernel_rfl
   intro t ht;have:=List.all_eq_true.1 ig t ht;simp only[Bool.and_eq_true,Qa2] at this;exact⟨this.1.1,this.1.2,this.2⟩) rfl
  (by
   intro H ds hds;have hlen:Tryz.f6.params.toList.length=ds.length:=hds.symm;have h3:ds.length=5:=hds.trans (by kernel_rfl);exact(match ds,h3 with | [d0,d1,d2,d3,d4],_=>rfl)) law
theorem kH{a b:Bool}(h:a=true)(g:b=true):(a&&b)=true:=by rw[h,g];rfl
theorem j0:(Rows.knowledgeLearnsRow.wf (OpenSpec.ofChange Rows.knowledgeLearnsSpec)&&laidOutB Tryz.prog&&mapsRowed Tryz.prog&&Tryz.f6.params.all (Tryz.prog.readableRec ·)&&namedTie Tryz.prog Rows.knowledgeLearnsRow.named Rows.knowledgeLearnsSpec.vars&&(Rows.knowledgeLearnsRow.stops==[])&&(Tryz.prog.stops==[])&&(Rows.knowledgeLearnsRow.knobs==[])&&(Tryz.prog.stopKnobs==[]))=true:=by kernel_rfl
theorem j9:(Rows.knowledgeLearnsRow.inPlace==Tryz.prog.inPlace 6)=true:=by kernel_rfl
theorem j10:(Rows.knowledgeLearnsRow.unfollowed==Tryz.prog.unfollowed 6)=true:=by kernel_rfl
theorem j11:(Rows.knowledgeLearnsRow.recurses==Tryz.prog.recurses 6)=true:=by kernel_rfl
theorem j12:(Rows.knowledgeLearnsRow.named==Tryz.prog.varsNamed 6)=true:=by kernel_rfl
theorem j24:(Tryz.prog.stopsHeard)=true:=by kernel_rfl
theorem j25:(Tryz.prog.mayEnter)=true:=by kernel_rfl
theorem j26:(Rows.knowledgeLearnsRow.lifted==Tryz.prog.liftsFinal)=true:=by kernel_rfl
theorem V3:joinedFacts Tryz.prog 6 Tryz.f6 Rows.knowledgeLearnsSpec Rows.knowledgeLearnsRow=true:=by
 unfold joinedFacts;exact(kH (kH (kH (kH (kH (kH (kH (kH (kH (kH (kH (kH (kH (kH (kH (kH (kH (kH (kH (kH (kH (kH (kH j0 j9) j10) j11) j12) (by kernel_rfl)) (by kernel_rfl)) (by kernel_rfl)) (by kernel_rfl)) (by kernel_rfl)) (by kernel_rfl)) (by kernel_rfl)) (by kernel_rfl)) (by kernel_rfl)) (by kernel_rfl)) (by kernel_rfl)) j24) j25) j26) (by kernel_rfl)) (by kernel_rfl)) (by kernel_rfl)) (by kernel_rfl)) (by kernel_rfl))
theorem over:Rows.knowledgeLearnsRow.holds Tryz.pinned (OpenSpec.ofChange Rows.knowledgeLearnsSpec) :=
 OpenClaim.holds_of_wide 6 Tryz.f6 rfl rfl rfl rfl rfl rfl rfl ⟨rfl,rfl,rfl,rfl,rfl⟩ rfl rfl rfl rfl rfl (by kernel_rfl) Tryz.func6 V3
  (Qa3 (by kernel_rfl)) (by unfold Func.isWrapper;first | (rw[Qa1 (by decide +kernel)];kernel_rfl) | (rw[Qa0 (by decide +kernel)];exact⟨rfl,rfl⟩))
  (λos started H enc _=>lifted os started H enc)
theorem proved:Rows.KnowledgeLearnsSaid:=over
end Go.Proofs.YteafbgcimcpfiaaGreat.knowledgeLearns
namespace Go.Proofs.YteafbgcimcpfiaaGreat
/-- The statement. -/
theorem knowledgeLearns_holds:Rows.KnowledgeLearnsSaid:=knowledgeLearns.proved
end Go.Proofs.YteafbgcimcpfiaaGreat
