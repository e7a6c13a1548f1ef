/- Proved: the law 'KnowledgeParts' returns true for every input, and each argument reads afterwards as it read before. Its conditions are those of the given row alone. -/
import Derived.Test.YteafbgcimcpfiaaGreatTop
set_option linter.all false
namespace Go.Proofs.YteafbgcimcpfiaaGreat.knowledgeParts
open Go Go.Abs Go.Proofs
open Go.ChangeShapes Go.WideShapes Go.ChangeAt Go.RowKit
theorem law(l:List AV)(h:tg G.ty Tryz.f3.params.toList l):hJ G.wz 18 3 l []=some (.bool true,[]):=by
 obtain⟨i0,q0,l0,IY,LP,rfl,h0⟩:=h;rw[show G.ty 24=some ⟨7,8,.struct [(0,5),(1,5),(2,5),(3,5),(4,5),(5,4),(6,22)],[.u8 0,.u8 0,.u8 0,.u8 0,.u8 0,.bool false,.int .u16 0],[.u8,.u8,.u8,.u8,.u8,.bool,.int .u16],[.u8,.u8,.u8,.u8,.u8,.bool,.int .u16]⟩ from by kernel_rfl] at IY;cases IY;have sv1:=js.struct (i:=⟨7,8,.struct [(0,5),(1,5),(2,5),(3,5),(4,5),(5,4),(6,22)],[.u8 0,.u8 0,.u8 0,.u8 0,.u8 0,.bool false,.int .u16 0],[.u8,.u8,.u8,.u8,.u8,.bool,.int .u16],[.u8,.u8,.u8,.u8,.u8,.bool,.int .u16]⟩) (by kernel_rfl) rfl LP;obtain⟨aeK,aeS,rfl,VK,XV⟩:=sv1;obtain⟨v2,rfl⟩:=js.u8 (i:=⟨1,1,.u8,[.u8 0],[.u8],[.u8]⟩) (by kernel_rfl) rfl VK;obtain⟨aeL,aeT,rfl,VL,XW⟩:=XV;obtain⟨v3,rfl⟩:=js.u8 (i:=⟨1,1,.u8,[.u8 0],[.u8],[.u8]⟩) (by kernel_rfl) rfl VL;obtain⟨aeM,aeU,rfl,VM,XX⟩:=XW;obtain⟨v4,rfl⟩:=js.u8 (i:=⟨1,1,.u8,[.u8 0],[.u8],[.u8]⟩) (by kernel_rfl) rfl VM;obtain⟨aeN,aeV,rfl,VN,XY⟩:=XX;obtain⟨v5,rfl⟩:=js.u8 (i:=⟨1,1,.u8,[.u8 0],[.u8],[.u8]⟩) (by kernel_rfl) rfl VN;obtain⟨aeO,aeW,rfl,VO,XZ⟩:=XY;obtain⟨v6,rfl⟩:=js.u8 (i:=⟨1,1,.u8,[.u8 0],[.u8],[.u8]⟩) (by kernel_rfl) rfl VO;obtain⟨aeP,aeX,rfl,VP,X0⟩:=XZ;obtain⟨v7,rfl⟩:=js.bool (i:=⟨1,1,.bool,[.bool false],[.bool],[.bool]⟩) (by kernel_rfl) rfl VP;obtain⟨aeQ,aeY,rfl,VQ,X1⟩:=X0;obtain⟨v8,rfl,wv8⟩:=js.int (i:=⟨1,2,.int .u16,[.int .u16 0],[.int .u16],[.int .u16]⟩) (by kernel_rfl) rfl VQ;obtain rfl:=X1;obtain⟨i1,q1,l1,Q7,yv,rfl,h1⟩:=h0;rw[show G.ty 25=some ⟨1,24,.slice 5 true,[.dc],[.eS],[]⟩ from by kernel_rfl] at Q7;cases Q7;obtain⟨v9,rfl,wv9⟩:=js.bs (i:=⟨1,24,.slice 5 true,[.dc],[.eS],[]⟩) (by kernel_rfl) rfl yv;obtain⟨i2,q2,l2,oA,tU,rfl,h2⟩:=h1;rw[show G.ty 29=some ⟨3,40,.struct [(0,3),(1,27),(2,25)],[.int .i64 0,.int .u64 0,.dc],[.int .i64,.int .u64,.eS],[]⟩ from by kernel_rfl] at oA;cases oA;have abU:=js.struct (i:=⟨3,40,.struct [(0,3),(1,27),(2,25)],[.int .i64 0,.int .u64 0,.dc],[.int .i64,.int .u64,.eS],[]⟩) (by kernel_rfl) rfl tU;obtain⟨ZQ,ZY,rfl,Te,Ur⟩:=abU;obtain⟨v11,rfl,aey⟩:=js.int (i:=⟨1,8,.int .i64,[.int .i64 0],[.int .i64],[.int .i64]⟩) (by kernel_rfl) rfl Te;obtain⟨ZR,ZZ,rfl,Tf,Us⟩:=Ur;obtain⟨v12,rfl,aez⟩:=js.int (i:=⟨1,8,.int .u64,[.int .u64 0],[.int .u64],[.int .u64]⟩) (by kernel_rfl) rfl Tf;obtain⟨ZS,Z0,rfl,Th,Ut⟩:=Us;obtain⟨v13,rfl,aeA⟩:=js.bs (i:=⟨1,24,.slice 5 true,[.dc],[.eS],[]⟩) (by kernel_rfl) rfl Th;obtain rfl:=Ut;obtain rfl:=h2;show hJ G.wz 18 3 [.agg [.u8 v2,.u8 v3,.u8 v4,.u8 v5,.u8 v6,.bool v7,.int .u16 v8],.bs v9,.agg [.int .i64 v11,.int .u64 v12,.bs v13]] []=some (.bool true,[]);have gv8:0<=v8/\v8<=65535:=by
  simpa [Lit.wf,IntKind.min,IntKind.max,IntKind.signed,IntKind.bits] using wv8
 have agd : -9223372036854775808<=v11/\v11<=9223372036854775807:=by
  simpa [Lit.wf,IntKind.min,IntKind.max,IntKind.signed,IntKind.bits] using aey
 have age:0<=v12/\v12<=18446744073709551615:=by
  simpa [Lit.wf,IntKind.min,IntKind.max,IntKind.signed,IntKind.bits] using aez
 refine Qb3 (b:=aD (decide (0<=v8)&&decide (v8<=65535)) (some (.bool true,[]))) (by kernel_rfl) ?_;have gv9:v9.length<=9223372036854775807:=wv9;have agf:v13.length<=9223372036854775807:=aeA;rw[ae (by simp only[Bool.and_eq_true,Qa2,Qa9,Qa8];omega)]
set_option maxRecDepth 100000 in
theorem lifted(os:Os)(started:os.Started)(H:Type)(enc:TypeId×Value->H) :
  ReturnsInHanded {} Tryz.checked os 3 .any (Rows.knowledgePartsSpec.pre6 enc Tryz.prog Tryz.f3 Rows.knowledgePartsRow.domain false) (Rows.knowledgePartsSpec.post enc Tryz.prog Tryz.f3 false true false false):=by
 refine returnsInHanded_of_change (C:=Tryz.checked) own started (by kernel_rfl) Tryz.func3
  (ChangeSpec.witness6 (enc:=enc) (C:=Tryz.checked) false ⟨#[],#[.agg #[.int .u8 0,.int .u8 0,.int .u8 0,.int .u8 0,.int .u8 0,.bool false,.int .u16 0],.slice none 0 0,.agg #[.int .i64 0,.int .u64 0,.slice none 0 0]],[]⟩ 8 (by kernel_rfl) (by kernel_rfl) (by kernel_rfl) (by kernel_rfl)) ?_
 exact E3 (C:=Tryz.checked) (G:=G) (k:=18) (rt:=4) wz rfl laidOut Tryz.func3 (by decide +kernel) (by kernel_rfl) (by kernel_rfl) Tryz.underlying4 (by kernel_rfl)
  (by
   have iq:(Tryz.f3.params.toList.all fun t=>covers G.ty 20 t&&Tryz.prog.readableRec t&&decide (t<Tryz.prog.types.size))=true:=by kernel_rfl
   intro t ht;have:=List.all_eq_true.1 iq t ht;simp only[Bool.and_eq_true,Qa2] at this;exact⟨this.1.1,this.1.2,this.2⟩) rfl
  (by
   intro H ds hds;have hlen:Tryz.f3.params.toList.length=ds.length:=hds.symm;have h3:ds.length=3:=hds.trans (by kernel_rfl);exact(match ds,h3 with | [d0,d1,d2],_=>rfl)) law
theorem j_{a b:Bool}(h:a=true)(g:b=true):(a&&b)=true:=by rw[h,g];rfl
theorem j0:(Rows.knowledgePartsRow.wf (OpenSpec.ofChange Rows.knowledgePartsSpec)&&laidOutB Tryz.prog&&mapsRowed Tryz.prog&&Tryz.f3.params.all (Tryz.prog.readableRec ·)&&namedTie Tryz.prog Rows.knowledgePartsRow.named Rows.knowledgePartsSpec.vars&&(Rows.knowledgePartsRow.stops==[])&&(Tryz.prog.stops==[])&&(Rows.knowledgePartsRow.knobs==[])&&(Tryz.prog.stopKnobs==[]))=true:=by kernel_rfl
theorem j9:(Rows.knowledgePartsRow.inPlace==Tryz.prog.inPlace 3)=true:=by kernel_rfl
theorem j10:(Rows.knowledgePartsRow.unfollowed==Tryz.prog.unfollowed 3)=true:=by kernel_rfl
theorem j11:(Rows.knowledgePartsRow.recurses==Tryz.prog.recurses 3)=true:=by kernel_rfl
theorem j12:(Rows.knowledgePartsRow.named==Tryz.prog.varsNamed 3)=true:=by kernel_rfl
theorem j24:(Tryz.prog.stopsHeard)=true:=by kernel_rfl
theorem j25:(Tryz.prog.mayEnter)=true:=by kernel_rfl
theorem j26:(Rows.knowledgePartsRow.lifted==Tryz.prog.liftsFinal)=true:=by kernel_rfl
theorem T_:joinedFacts Tryz.prog 3 Tryz.f3 Rows.knowledgePartsSpec Rows.knowledgePartsRow=true:=by
 unfold joinedFacts;exact(j_ (j_ (j_ (j_ (j_ (j_ (j_ (j_ (j_ (j_ (j_ (j_ (j_ (j_ (j_ (j_ (j_ (j_ (j_ (j_ (j_ (j_ (j_ j0 j9) j10) j11) j12) (by kernel_rfl)) (by kernel_rfl)) (by kernel_rfl)) (by kernel_rfl)) (by kernel_rfl)) (by kernel_rfl)) (by kernel_rfl)) (by kernel_rfl)) (by kernel_rfl)) (by kernel_rfl)) (by kernel_rfl)) j24) j25) j26) (by kernel_rfl)) (by kernel_rfl)) (by kernel_rfl)) (by kernel_rfl)) (by kernel_rfl))
theorem over:Rows.knowledgePartsRow.holds Tryz.pinned (OpenSpec.ofChange Rows.knowledgePartsSpec) :=
 OpenClaim.holds_of_wide 3 Tryz.f3 rfl rfl rfl rfl rfl rfl rfl ⟨rfl,rfl,rfl,rfl,rfl⟩ rfl rfl rfl rfl rfl (by kernel_rfl) Tryz.func3 T_
  (Qa3 (by kernel_rfl)) (by unfold Func.isWrapper;first | (rw[Qa1 (by decide +kernel)];kernel_rfl) | (rw[Qa0 (by decide +kernel)];exact⟨rfl,rfl⟩))
  (fun os started H enc _=>lifted os started H enc)
theorem proved:Rows.KnowledgePartsSaid:=over
end Go.Proofs.YteafbgcimcpfiaaGreat.knowledgeParts
namespace Go.Proofs.YteafbgcimcpfiaaGreat
/-- The statement. -/
theorem knowledgeParts_holds:Rows.KnowledgePartsSaid:=knowledgeParts.proved
end Go.Proofs.YteafbgcimcpfiaaGreat
