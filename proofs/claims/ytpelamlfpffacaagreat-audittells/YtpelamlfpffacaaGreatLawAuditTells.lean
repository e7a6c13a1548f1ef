/- The law AuditTells. -/
import Derived.Test.YtpelamlfpffacaaGreatTop
import Derived.Test.YtpelamlfpffacaaGreatTj
import Derived.Test.YtpelamlfpffacaaGreatTt2
set_option linter.all false
open Go.IntKind renaming i64->AI
namespace Go.Proofs.YtpelamlfpffacaaGreat.auditTells
open Go Go.Abs Go.Proofs
open Go.ChangeShapes Go.WideShapes Go.ChangeAt Go.RowKit
theorem law(l:List AV)(h:uP G.ty Tryz.f3.params.toList l):fP G.uw 20 3 l []=some (.bool true,[]):=by
 obtain⟨i0,q0,l0,Ll,L5,rfl,h0⟩:=h;rw[show G.ty 24=some ⟨10,10,.struct [(0,22),(5,5),(6,5),(7,5),(8,5),(9,5)],[.u8 0,.u8 0,.u8 0,.u8 0,.u8 0,.u8 0,.u8 0,.u8 0,.u8 0,.u8 0],[.u8,.u8,.u8,.u8,.u8,.u8,.u8,.u8,.u8,.u8],[]⟩ from by kernel_rfl] at Ll;cases Ll;have sv1:=ga.struct (i:=⟨10,10,.struct [(0,22),(5,5),(6,5),(7,5),(8,5),(9,5)],[.u8 0,.u8 0,.u8 0,.u8 0,.u8 0,.u8 0,.u8 0,.u8 0,.u8 0,.u8 0],[.u8,.u8,.u8,.u8,.u8,.u8,.u8,.u8,.u8,.u8],[]⟩) (by kernel_rfl) rfl L5;obtain⟨aou,aoG,rfl,adW,afU⟩:=sv1;have sv2:=ga.c8 (i:=⟨5,5,.c8 5 5 true,[.u8 0,.u8 0,.u8 0,.u8 0,.u8 0],[.u8,.u8,.u8,.u8,.u8],[]⟩) (by kernel_rfl) rfl adW;obtain⟨aoA,aoM,rfl,ad2,af0⟩:=sv2;obtain⟨v3,rfl⟩:=ga.u8 (i:=⟨1,1,.u8,[.u8 0],[.u8],[.u8]⟩) (by kernel_rfl) rfl ad2;obtain⟨aoB,aoN,rfl,ad3,af1⟩:=af0;obtain⟨v4,rfl⟩:=ga.u8 (i:=⟨1,1,.u8,[.u8 0],[.u8],[.u8]⟩) (by kernel_rfl) rfl ad3;obtain⟨aoC,aoO,rfl,ad4,af2⟩:=af1;obtain⟨v5,rfl⟩:=ga.u8 (i:=⟨1,1,.u8,[.u8 0],[.u8],[.u8]⟩) (by kernel_rfl) rfl ad4;obtain⟨aoD,aoP,rfl,ad5,af3⟩:=af2;obtain⟨v6,rfl⟩:=ga.u8 (i:=⟨1,1,.u8,[.u8 0],[.u8],[.u8]⟩) (by kernel_rfl) rfl ad5;obtain⟨aoE,aoQ,rfl,ad6,af4⟩:=af3;obtain⟨v7,rfl⟩:=ga.u8 (i:=⟨1,1,.u8,[.u8 0],[.u8],[.u8]⟩) (by kernel_rfl) rfl ad6;obtain rfl:=af4;obtain⟨aov,aoH,rfl,adX,afV⟩:=afU;obtain⟨v8,rfl⟩:=ga.u8 (i:=⟨1,1,.u8,[.u8 0],[.u8],[.u8]⟩) (by kernel_rfl) rfl adX;obtain⟨aow,aoI,rfl,adY,afW⟩:=afV;obtain⟨v9,rfl⟩:=ga.u8 (i:=⟨1,1,.u8,[.u8 0],[.u8],[.u8]⟩) (by kernel_rfl) rfl adY;obtain⟨aox,aoJ,rfl,adZ,afX⟩:=afW;obtain⟨v10,rfl⟩:=ga.u8 (i:=⟨1,1,.u8,[.u8 0],[.u8],[.u8]⟩) (by kernel_rfl) rfl adZ;obtain⟨aoy,aoK,rfl,ad0,afY⟩:=afX;obtain⟨v11,rfl⟩:=ga.u8 (i:=⟨1,1,.u8,[.u8 0],[.u8],[.u8]⟩) (by kernel_rfl) rfl ad0;obtain⟨aoz,aoL,rfl,ad1,afZ⟩:=afY;obtain⟨QO,rfl⟩:=ga.u8 (i:=⟨1,1,.u8,[.u8 0],[.u8],[.u8]⟩) (by kernel_rfl) rfl ad1;obtain rfl:=afZ;obtain⟨i1,q1,l1,Wc,ym,rfl,h1⟩:=h0;rw[show G.ty 25=some ⟨1,24,.slice 79 false,[.bJ],[.sl 6],[]⟩ from by kernel_rfl] at Wc;cases Wc;obtain⟨aoV,Q2,Sm,rfl,asZ,abd⟩:=ga.sl (i:=⟨1,24,.slice 79 false,[.bJ],[.sl 6],[]⟩) (by kernel_rfl) rfl ym;rw[show G.ty 79=some ⟨6,8,.struct [(0,5),(1,5),(2,5),(3,5),(4,5),(5,26)],[.u8 0,.u8 0,.u8 0,.u8 0,.u8 0,.int .u16 0],[.u8,.u8,.u8,.u8,.u8,.int .u16],[.u8,.u8,.u8,.u8,.u8,.int .u16]⟩ from by kernel_rfl] at Sm;cases Sm;have ahz:Al HM Q2:=by
  intro x hx D hD;obtain⟨ase,afa,rfl⟩:=abd x hx;have ak5:=ga.struct (i:=⟨6,8,.struct [(0,5),(1,5),(2,5),(3,5),(4,5),(5,26)],[.u8 0,.u8 0,.u8 0,.u8 0,.u8 0,.int .u16 0],[.u8,.u8,.u8,.u8,.u8,.int .u16],[.u8,.u8,.u8,.u8,.u8,.int .u16]⟩) (by kernel_rfl) rfl afa;obtain⟨aic,ai1,rfl,aaI,aco⟩:=ak5;obtain⟨v15,rfl⟩:=ga.u8 (i:=⟨1,1,.u8,[.u8 0],[.u8],[.u8]⟩) (by kernel_rfl) rfl aaI;obtain⟨aid,ai2,rfl,aaJ,acp⟩:=aco;obtain⟨v16,rfl⟩:=ga.u8 (i:=⟨1,1,.u8,[.u8 0],[.u8],[.u8]⟩) (by kernel_rfl) rfl aaJ;obtain⟨aie,ai3,rfl,aaK,acq⟩:=acp;obtain⟨v17,rfl⟩:=ga.u8 (i:=⟨1,1,.u8,[.u8 0],[.u8],[.u8]⟩) (by kernel_rfl) rfl aaK;obtain⟨aif,ai4,rfl,aaL,acr⟩:=acq;obtain⟨v18,rfl⟩:=ga.u8 (i:=⟨1,1,.u8,[.u8 0],[.u8],[.u8]⟩) (by kernel_rfl) rfl aaL;obtain⟨aih,ai5,rfl,aaM,acs⟩:=acr;obtain⟨v19,rfl⟩:=ga.u8 (i:=⟨1,1,.u8,[.u8 0],[.u8],[.u8]⟩) (by kernel_rfl) rfl aaM;obtain⟨aii,ai6,rfl,aaN,acu⟩:=acs;obtain⟨v20,rfl,aok⟩:=ga.int (i:=⟨1,2,.int .u16,[.int .u16 0],[.int .u16],[.int .u16]⟩) (by kernel_rfl) rfl aaN;obtain rfl:=acu;have aqA:0<=v20/\v20<=65535:=by
   simpa [Lit.wf,IntKind.min,IntKind.max,IntKind.signed,IntKind.bits] using aok
  apply hD<;>first | exact UInt8.toNat_lt _ | assumption | omega
 obtain⟨i2,q2,l2,mM,s8,rfl,h2⟩:=h1;rw[show G.ty 28=some ⟨4,6,.struct [(0,5),(1,5),(2,5),(3,26)],[.u8 0,.u8 0,.u8 0,.int .u16 0],[.u8,.u8,.u8,.int .u16],[.u8,.u8,.u8,.int .u16]⟩ from by kernel_rfl] at mM;cases mM;have ak6:=ga.struct (i:=⟨4,6,.struct [(0,5),(1,5),(2,5),(3,26)],[.u8 0,.u8 0,.u8 0,.int .u16 0],[.u8,.u8,.u8,.int .u16],[.u8,.u8,.u8,.int .u16]⟩) (by kernel_rfl) rfl s8;obtain⟨aij,ai7,rfl,aaO,acv⟩:=ak6;obtain⟨v22,rfl⟩:=ga.u8 (i:=⟨1,1,.u8,[.u8 0],[.u8],[.u8]⟩) (by kernel_rfl) rfl aaO;obtain⟨aik,ai8,rfl,aaP,acw⟩:=acv;obtain⟨v23,rfl⟩:=ga.u8 (i:=⟨1,1,.u8,[.u8 0],[.u8],[.u8]⟩) (by kernel_rfl) rfl aaP;obtain⟨ail,ai9,rfl,aaQ,acx⟩:=acw;obtain⟨v24,rfl⟩:=ga.u8 (i:=⟨1,1,.u8,[.u8 0],[.u8],[.u8]⟩) (by kernel_rfl) rfl aaQ;obtain⟨aim,ai_,rfl,aaR,acy⟩:=acx;obtain⟨XW,rfl,aol⟩:=ga.int (i:=⟨1,2,.int .u16,[.int .u16 0],[.int .u16],[.int .u16]⟩) (by kernel_rfl) rfl aaR;obtain rfl:=acy;obtain⟨i3,q3,l3,hi3,hc3,rfl,h3⟩:=h2;rw[show G.ty 3=some ⟨1,8,.int AI,[.int AI 0],[.int AI],[.int AI]⟩ from by kernel_rfl] at hi3;cases hi3;obtain⟨v26,rfl,aom⟩:=ga.int (i:=⟨1,8,.int AI,[.int AI 0],[.int AI],[.int AI]⟩) (by kernel_rfl) rfl hc3;obtain rfl:=h3;show fP G.uw 20 3 [.agg [.u8 v3,.u8 v4,.u8 v5,.u8 v6,.u8 v7,.u8 v8,.u8 v9,.u8 v10,.u8 v11,.u8 QO],.sl 6 Q2,.agg [.u8 v22,.u8 v23,.u8 v24,.int .u16 XW],.int AI v26] []=some (.bool true,[]);have aqB:0<=XW/\XW<=65535:=by
  simpa [Lit.wf,IntKind.min,IntKind.max,IntKind.signed,IntKind.bits] using aol
 have aqC : -9223372036854775808<=v26/\v26<=9223372036854775807:=by
  simpa [Lit.wf,IntKind.min,IntKind.max,IntKind.signed,IntKind.bits] using aom
 obtain⟨r,h1,h2⟩:=t3.ok [.agg [.u8 v3,.u8 v4,.u8 v5,.u8 v6,.u8 v7,.u8 v8,.u8 v9,.u8 v10,.u8 v11,.u8 QO],.sl 6 Q2,.agg [.u8 v22,.u8 v23,.u8 v24,.int .u16 XW],.int AI v26] (λD hD=>by apply hD<;>first | exact UInt8.toNat_lt _ | assumption | omega) (λr=>r=(.bool true,[])) rfl;subst h2;exact Qb2 (by kernel_rfl) h1
set_option maxRecDepth 100000 in
theorem lifted(os:Os)(started:os.Started)(H:Type)(enc:TypeId×Value->H) :
  ReturnsInHanded {} Tryz.checked os 3 .any (Rows.auditTellsSpec.pre6 enc Tryz.prog Tryz.f3 Rows.auditTellsRow.domain false) (Rows.auditTellsSpec.post enc Tryz.prog Tryz.f3 false true false false):=by
 refine returnsInHanded_of_change (C:=Tryz.checked) own started (by kernel_rfl) Tryz.func3
  (ChangeSpec.witness6 (enc:=enc) (C:=Tryz.checked) false ⟨#[],#[.agg #[.int .u8 0,.int .u8 0,.int .u8 0,.int .u8 0,.int .u8 0,.int .u8 0,.int .u8 0,.int .u8 0,.int .u8 0,.int .u8 0],.slice none 0 0,.agg #[.int .u8 0,.int .u8 0,.int .u8 0,.int .u16 0],.int AI 0],[]⟩ 8 (by kernel_rfl) (by kernel_rfl) (by kernel_rfl) (by kernel_rfl)) ?_
 exact Hj (C:=Tryz.checked) (G:=G) (k:=20) (rt:=4) uw rfl laidOut Tryz.func3 (by decide +kernel) (by kernel_rfl) (by kernel_rfl) Tryz.underlying4 (by kernel_rfl)
  (by
   have hZ:(Tryz.f3.params.toList.all λt=>covers G.ty 20 t&&Tryz.prog.readableRec t&&decide (t<Tryz.prog.types.size))=true:=by kernel_rfl
   intro t ht;have:=List.all_eq_true.1 hZ t ht;simp only[Bool.and_eq_true,Qa2] at this;exact⟨this.1.1,this.1.2,this.2⟩) rfl
  (by
   intro H ds hds;have hlen:Tryz.f3.params.toList.length=ds.length:=hds.symm;have h3:ds.length=4:=hds.trans (by kernel_rfl);exact(match ds,h3 with | [d0,d1,d2,d3],_=>rfl)) law
theorem over:Rows.auditTellsRow.holds Tryz.pinned (OpenSpec.ofChange Rows.auditTellsSpec) :=
 OpenClaim.holds_of_wide 3 Tryz.f3 rfl rfl rfl rfl rfl rfl rfl ⟨rfl,rfl,rfl,rfl,rfl⟩ rfl rfl rfl rfl rfl (by kernel_rfl) Tryz.func3 abQ
  (Qa3 (by kernel_rfl)) (by unfold Func.isWrapper;first | (rw[Qa1 (by decide +kernel)];kernel_rfl) | (rw[Qa0 (by decide +kernel)];exact⟨rfl,rfl⟩))
  (λos started H enc _=>lifted os started H enc)
theorem proved:Rows.AuditTellsSaid:=over
end Go.Proofs.YtpelamlfpffacaaGreat.auditTells
namespace Go.Proofs.YtpelamlfpffacaaGreat
/-- The statement. -/
theorem auditTells_holds:Rows.AuditTellsSaid:=auditTells.proved
end Go.Proofs.YtpelamlfpffacaaGreat
