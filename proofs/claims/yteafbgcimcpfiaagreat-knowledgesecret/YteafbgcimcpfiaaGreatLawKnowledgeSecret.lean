/- Proved: the law 'KnowledgeSecret' returns true for every input, and each argument reads afterwards as it read before. Its conditions are those of the given row alone. -/
import Derived.Test.YteafbgcimcpfiaaGreatTop
set_option linter.all false
open Bool renaming false→Zz
namespace Go.Proofs.YteafbgcimcpfiaaGreat.knowledgeSecret
open Go Go.Abs Go.Proofs
open Go.ChangeShapes Go.WideShapes Go.ChangeAt Go.RowKit
theorem law(l:List AV)(h:rR G.ty Tryz.f5.params.toList l):gx G.vA 18 5 l []=some (.bool true,[]):=by
 obtain⟨i0,q0,l0,Iv,I1,rfl,h0⟩:=h;rw[show G.ty 44=some ⟨1,24,.slice 24 Zz,[.cY],[.sl 7],[]⟩ from by kernel_rfl] at Iv;cases Iv;obtain⟨agV,v1,SG,rfl,wv1,W5⟩:=hO.sl (i:=⟨1,24,.slice 24 Zz,[.cY],[.sl 7],[]⟩) (by kernel_rfl) rfl I1;rw[show G.ty 24=some ⟨7,8,.struct [(0,5),(1,5),(2,5),(3,5),(4,5),(5,4),(6,22)],[.u8 0,.u8 0,.u8 0,.u8 0,.u8 0,.bool Zz,.int .u16 0],[.u8,.u8,.u8,.u8,.u8,.bool,.int .u16],[.u8,.u8,.u8,.u8,.u8,.bool,.int .u16]⟩ from by kernel_rfl] at SG;cases SG;have TV:v1.all Kerb.mY=true:=by
  rw[List.all_eq_true];intro x hx;obtain⟨qv1,ab9,rfl⟩:=W5 x hx;have sv2:=hO.struct (i:=⟨7,8,.struct [(0,5),(1,5),(2,5),(3,5),(4,5),(5,4),(6,22)],[.u8 0,.u8 0,.u8 0,.u8 0,.u8 0,.bool Zz,.int .u16 0],[.u8,.u8,.u8,.u8,.u8,.bool,.int .u16],[.u8,.u8,.u8,.u8,.u8,.bool,.int .u16]⟩) (by kernel_rfl) rfl ab9;obtain⟨afp,afx,rfl,WA,YK⟩:=sv2;obtain⟨v3,rfl⟩:=hO.u8 (i:=⟨1,1,.u8,[.u8 0],[.u8],[.u8]⟩) (by kernel_rfl) rfl WA;obtain⟨afq,afy,rfl,WB,YL⟩:=YK;obtain⟨v4,rfl⟩:=hO.u8 (i:=⟨1,1,.u8,[.u8 0],[.u8],[.u8]⟩) (by kernel_rfl) rfl WB;obtain⟨afr,afz,rfl,WC,YM⟩:=YL;obtain⟨v5,rfl⟩:=hO.u8 (i:=⟨1,1,.u8,[.u8 0],[.u8],[.u8]⟩) (by kernel_rfl) rfl WC;obtain⟨afs,afA,rfl,WD,YN⟩:=YM;obtain⟨v6,rfl⟩:=hO.u8 (i:=⟨1,1,.u8,[.u8 0],[.u8],[.u8]⟩) (by kernel_rfl) rfl WD;obtain⟨aft,afB,rfl,WE,YO⟩:=YN;obtain⟨v7,rfl⟩:=hO.u8 (i:=⟨1,1,.u8,[.u8 0],[.u8],[.u8]⟩) (by kernel_rfl) rfl WE;obtain⟨afu,afC,rfl,WG,YP⟩:=YO;obtain⟨v8,rfl⟩:=hO.bool (i:=⟨1,1,.bool,[.bool Zz],[.bool],[.bool]⟩) (by kernel_rfl) rfl WG;obtain⟨afv,afD,rfl,WH,YQ⟩:=YP;obtain⟨v9,rfl,wv9⟩:=hO.int (i:=⟨1,2,.int .u16,[.int .u16 0],[.int .u16],[.int .u16]⟩) (by kernel_rfl) rfl WH;obtain rfl:=YQ;have gv9:0<=v9/\v9<=65535:=by
   simpa [Lit.wf,IntKind.min,IntKind.max,IntKind.signed,IntKind.bits] using wv9
  show Kerb.mY (.agg [.u8 v3,.u8 v4,.u8 v5,.u8 v6,.u8 v7,.bool v8,.int .u16 v9])=true;simp only[Kerb.mY,Bool.and_eq_true,Qa2];omega
 obtain⟨i1,q1,l1,Q0,xC,rfl,h1⟩:=h0;rw[show G.ty 24=some ⟨7,8,.struct [(0,5),(1,5),(2,5),(3,5),(4,5),(5,4),(6,22)],[.u8 0,.u8 0,.u8 0,.u8 0,.u8 0,.bool Zz,.int .u16 0],[.u8,.u8,.u8,.u8,.u8,.bool,.int .u16],[.u8,.u8,.u8,.u8,.u8,.bool,.int .u16]⟩ from by kernel_rfl] at Q0;cases Q0;have acR:=hO.struct (i:=⟨7,8,.struct [(0,5),(1,5),(2,5),(3,5),(4,5),(5,4),(6,22)],[.u8 0,.u8 0,.u8 0,.u8 0,.u8 0,.bool Zz,.int .u16 0],[.u8,.u8,.u8,.u8,.u8,.bool,.int .u16],[.u8,.u8,.u8,.u8,.u8,.bool,.int .u16]⟩) (by kernel_rfl) rfl xC;obtain⟨aaD,aaT,rfl,TC,UU⟩:=acR;obtain⟨v11,rfl⟩:=hO.u8 (i:=⟨1,1,.u8,[.u8 0],[.u8],[.u8]⟩) (by kernel_rfl) rfl TC;obtain⟨aaE,aaU,rfl,TD,UW⟩:=UU;obtain⟨v12,rfl⟩:=hO.u8 (i:=⟨1,1,.u8,[.u8 0],[.u8],[.u8]⟩) (by kernel_rfl) rfl TD;obtain⟨aaF,aaV,rfl,TE,UX⟩:=UW;obtain⟨v13,rfl⟩:=hO.u8 (i:=⟨1,1,.u8,[.u8 0],[.u8],[.u8]⟩) (by kernel_rfl) rfl TE;obtain⟨aaG,aaW,rfl,TF,UY⟩:=UX;obtain⟨v14,rfl⟩:=hO.u8 (i:=⟨1,1,.u8,[.u8 0],[.u8],[.u8]⟩) (by kernel_rfl) rfl TF;obtain⟨aaH,aaX,rfl,TG,UZ⟩:=UY;obtain⟨v15,rfl⟩:=hO.u8 (i:=⟨1,1,.u8,[.u8 0],[.u8],[.u8]⟩) (by kernel_rfl) rfl TG;obtain⟨aaI,aaY,rfl,TH,U0⟩:=UZ;obtain⟨v16,rfl⟩:=hO.bool (i:=⟨1,1,.bool,[.bool Zz],[.bool],[.bool]⟩) (by kernel_rfl) rfl TH;obtain⟨aaJ,aaZ,rfl,TJ,U1⟩:=U0;obtain⟨ZM,rfl,afb⟩:=hO.int (i:=⟨1,2,.int .u16,[.int .u16 0],[.int .u16],[.int .u16]⟩) (by kernel_rfl) rfl TJ;obtain rfl:=U1;obtain rfl:=h1;show gx G.vA 18 5 [.sl 7 v1,.agg [.u8 v11,.u8 v12,.u8 v13,.u8 v14,.u8 v15,.bool v16,.int .u16 ZM]] []=some (.bool true,[]);have ag0:0<=ZM/\ZM<=65535:=by
  simpa [Lit.wf,IntKind.min,IntKind.max,IntKind.signed,IntKind.bits] using afb
 refine Qb1 (b:=az (v1.all Kerb.mY&&decide (0<=ZM)&&decide (ZM<=65535)) (some (.bool true,[]))) (by kernel_rfl) ?_;rw[ae (by simp only[TV,Bool.and_eq_true,Qa2,Qa8,Qa7];omega)]
set_option maxRecDepth 100000 in
theorem lifted(os:Os)(started:os.Started)(H:Type)(enc:TypeId×Value->H) :
  ReturnsInHanded {} Tryz.checked os 5 .any (Rows.knowledgeSecretSpec.pre6 enc Tryz.prog Tryz.f5 Rows.knowledgeSecretRow.domain Zz) (Rows.knowledgeSecretSpec.post enc Tryz.prog Tryz.f5 Zz true Zz Zz):=by
 refine returnsInHanded_of_change (C:=Tryz.checked) own started (by kernel_rfl) Tryz.func5
  (ChangeSpec.witness6 (enc:=enc) (C:=Tryz.checked) Zz ⟨#[],#[.slice none 0 0,.agg #[.int .u8 0,.int .u8 0,.int .u8 0,.int .u8 0,.int .u8 0,.bool Zz,.int .u16 0]],[]⟩ 8 (by kernel_rfl) (by kernel_rfl) (by kernel_rfl) (by kernel_rfl)) ?_
 exact Ey (C:=Tryz.checked) (G:=G) (k:=18) (rt:=4) vA rfl laidOut Tryz.func5 (by decide +kernel) (by kernel_rfl) (by kernel_rfl) Tryz.underlying4 (by kernel_rfl)
  (by
   have fW:(Tryz.f5.params.toList.all fun t=>covers G.ty 20 t&&Tryz.prog.readableRec t&&decide (t<Tryz.prog.types.size))=true:=by kernel_rfl
   intro t ht;have:=List.all_eq_true.1 fW t ht;simp only[Bool.and_eq_true,Qa2] at this;exact⟨this.1.1,this.1.2,this.2⟩) rfl
  (by
   intro H ds hds;have hlen:Tryz.f5.params.toList.length=ds.length:=hds.symm;have h3:ds.length=2:=hds.trans (by kernel_rfl);exact(match ds,h3 with | [d0,d1],_=>rfl)) law
theorem jp{a b:Bool}(h:a=true)(g:b=true):(a&&b)=true:=by rw[h,g];rfl
theorem j0:(Rows.knowledgeSecretRow.wf (OpenSpec.ofChange Rows.knowledgeSecretSpec)&&laidOutB Tryz.prog&&mapsRowed Tryz.prog&&Tryz.f5.params.all (Tryz.prog.readableRec ·)&&namedTie Tryz.prog Rows.knowledgeSecretRow.named Rows.knowledgeSecretSpec.vars&&(Rows.knowledgeSecretRow.stops==[])&&(Tryz.prog.stops==[])&&(Rows.knowledgeSecretRow.knobs==[])&&(Tryz.prog.stopKnobs==[]))=true:=by kernel_rfl
theorem j9:(Rows.knowledgeSecretRow.inPlace==Tryz.prog.inPlace 5)=true:=by kernel_rfl
theorem j10:(Rows.knowledgeSecretRow.unfollowed==Tryz.prog.unfollowed 5)=true:=by kernel_rfl
theorem j11:(Rows.knowledgeSecretRow.recurses==Tryz.prog.recurses 5)=true:=by kernel_rfl
theorem j12:(Rows.knowledgeSecretRow.named==Tryz.prog.varsNamed 5)=true:=by kernel_rfl
theorem j24:(Tryz.prog.stopsHeard)=true:=by kernel_rfl
theorem j25:(Tryz.prog.mayEnter)=true:=by kernel_rfl
theorem j26:(Rows.knowledgeSecretRow.lifted==Tryz.prog.liftsFinal)=true:=by kernel_rfl
theorem UC:joinedFacts Tryz.prog 5 Tryz.f5 Rows.knowledgeSecretSpec Rows.knowledgeSecretRow=true:=by
 unfold joinedFacts;exact(jp (jp (jp (jp (jp (jp (jp (jp (jp (jp (jp (jp (jp (jp (jp (jp (jp (jp (jp (jp (jp (jp (jp j0 j9) j10) j11) j12) (by kernel_rfl)) (by kernel_rfl)) (by kernel_rfl)) (by kernel_rfl)) (by kernel_rfl)) (by kernel_rfl)) (by kernel_rfl)) (by kernel_rfl)) (by kernel_rfl)) (by kernel_rfl)) (by kernel_rfl)) j24) j25) j26) (by kernel_rfl)) (by kernel_rfl)) (by kernel_rfl)) (by kernel_rfl)) (by kernel_rfl))
theorem over:Rows.knowledgeSecretRow.holds Tryz.pinned (OpenSpec.ofChange Rows.knowledgeSecretSpec) :=
 OpenClaim.holds_of_wide 5 Tryz.f5 rfl rfl rfl rfl rfl rfl rfl ⟨rfl,rfl,rfl,rfl,rfl⟩ rfl rfl rfl rfl rfl (by kernel_rfl) Tryz.func5 UC
  (Qa3 (by kernel_rfl)) (by unfold Func.isWrapper;first | (rw[Qa1 (by decide +kernel)];kernel_rfl) | (rw[Qa0 (by decide +kernel)];exact⟨rfl,rfl⟩))
  (fun os started H enc _=>lifted os started H enc)
theorem proved:Rows.KnowledgeSecretSaid:=over
end Go.Proofs.YteafbgcimcpfiaaGreat.knowledgeSecret
namespace Go.Proofs.YteafbgcimcpfiaaGreat
/-- The statement. -/
theorem knowledgeSecret_holds:Rows.KnowledgeSecretSaid:=knowledgeSecret.proved
end Go.Proofs.YteafbgcimcpfiaaGreat
