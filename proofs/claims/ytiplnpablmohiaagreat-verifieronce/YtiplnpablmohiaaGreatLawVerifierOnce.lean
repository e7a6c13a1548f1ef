/- Proved: the law 'VerifierOnce' returns true for every input, and each argument reads afterwards as it read before. Its conditions are those of the given row alone. -/
import Derived.Test.YtiplnpablmohiaaGreatTop
open Go.IntKind renaming signed→Zz,bits→Zy,min→Zx,max→Zw
namespace Go.Proofs.YtiplnpablmohiaaGreat.verifierOnce
open Go Go.Abs Go.Proofs
open Go.ChangeShapes Go.WideShapes Go.ChangeAt Go.RowKit
set_option linter.unusedVariables false
set_option linter.unusedSimpArgs false
theorem law (l:List AV) (h:ConfArgs G.ty Tryz.f6.params.toList l):callOf G.tab 17 6 l []=some (.bool true,[]):=by
 obtain ⟨i0,q0,l0,hi0,hc0,rfl,h0⟩:=h
 rw [show G.ty 25=some ⟨19,28,.struct [(0,5),(1,5),(2,5),(3,5),(4,4),(5,4),(6,4),(7,5),(8,5),(9,5),(10,5),(11,5),(12,5),(13,22),(14,5),(15,5),(16,5),(17,23),(18,23)],[.u8 0,.u8 0,.u8 0,.u8 0,.bool false,.bool false,.bool false,.u8 0,.u8 0,.u8 0,.u8 0,.u8 0,.u8 0,.int .u32 0,.u8 0,.u8 0,.u8 0,.int .u16 0,.int .u16 0],[.u8,.u8,.u8,.u8,.bool,.bool,.bool,.u8,.u8,.u8,.u8,.u8,.u8,.int .u32,.u8,.u8,.u8,.int .u16,.int .u16],[.u8,.u8,.u8,.u8,.bool,.bool,.bool,.u8,.u8,.u8,.u8,.u8,.u8,.int .u32,.u8,.u8,.u8,.int .u16,.int .u16]⟩ from by kernel_rfl] at hi0
 cases hi0
 have sv1:=Conf.struct (i:=⟨19,28,.struct [(0,5),(1,5),(2,5),(3,5),(4,4),(5,4),(6,4),(7,5),(8,5),(9,5),(10,5),(11,5),(12,5),(13,22),(14,5),(15,5),(16,5),(17,23),(18,23)],[.u8 0,.u8 0,.u8 0,.u8 0,.bool false,.bool false,.bool false,.u8 0,.u8 0,.u8 0,.u8 0,.u8 0,.u8 0,.int .u32 0,.u8 0,.u8 0,.u8 0,.int .u16 0,.int .u16 0],[.u8,.u8,.u8,.u8,.bool,.bool,.bool,.u8,.u8,.u8,.u8,.u8,.u8,.int .u32,.u8,.u8,.u8,.int .u16,.int .u16],[.u8,.u8,.u8,.u8,.bool,.bool,.bool,.u8,.u8,.u8,.u8,.u8,.u8,.int .u32,.u8,.u8,.u8,.int .u16,.int .u16]⟩) (by kernel_rfl) rfl hc0
 obtain ⟨av1_0,bv1_0,rfl,cv1_0,rv1_0⟩:=sv1
 obtain ⟨v2,rfl⟩:=Conf.u8 (i:=⟨1,1,.u8,[.u8 0],[.u8],[.u8]⟩) (by kernel_rfl) rfl cv1_0
 obtain ⟨av1_1,bv1_1,rfl,cv1_1,rv1_1⟩:=rv1_0
 obtain ⟨v3,rfl⟩:=Conf.u8 (i:=⟨1,1,.u8,[.u8 0],[.u8],[.u8]⟩) (by kernel_rfl) rfl cv1_1
 obtain ⟨av1_2,bv1_2,rfl,cv1_2,rv1_2⟩:=rv1_1
 obtain ⟨v4,rfl⟩:=Conf.u8 (i:=⟨1,1,.u8,[.u8 0],[.u8],[.u8]⟩) (by kernel_rfl) rfl cv1_2
 obtain ⟨av1_3,bv1_3,rfl,cv1_3,rv1_3⟩:=rv1_2
 obtain ⟨v5,rfl⟩:=Conf.u8 (i:=⟨1,1,.u8,[.u8 0],[.u8],[.u8]⟩) (by kernel_rfl) rfl cv1_3
 obtain ⟨av1_4,bv1_4,rfl,cv1_4,rv1_4⟩:=rv1_3
 obtain ⟨v6,rfl⟩:=Conf.bool (i:=⟨1,1,.bool,[.bool false],[.bool],[.bool]⟩) (by kernel_rfl) rfl cv1_4
 obtain ⟨av1_5,bv1_5,rfl,cv1_5,rv1_5⟩:=rv1_4
 obtain ⟨v7,rfl⟩:=Conf.bool (i:=⟨1,1,.bool,[.bool false],[.bool],[.bool]⟩) (by kernel_rfl) rfl cv1_5
 obtain ⟨av1_6,bv1_6,rfl,cv1_6,rv1_6⟩:=rv1_5
 obtain ⟨v8,rfl⟩:=Conf.bool (i:=⟨1,1,.bool,[.bool false],[.bool],[.bool]⟩) (by kernel_rfl) rfl cv1_6
 obtain ⟨av1_7,bv1_7,rfl,cv1_7,rv1_7⟩:=rv1_6
 obtain ⟨v9,rfl⟩:=Conf.u8 (i:=⟨1,1,.u8,[.u8 0],[.u8],[.u8]⟩) (by kernel_rfl) rfl cv1_7
 obtain ⟨av1_8,bv1_8,rfl,cv1_8,rv1_8⟩:=rv1_7
 obtain ⟨v10,rfl⟩:=Conf.u8 (i:=⟨1,1,.u8,[.u8 0],[.u8],[.u8]⟩) (by kernel_rfl) rfl cv1_8
 obtain ⟨av1_9,bv1_9,rfl,cv1_9,rv1_9⟩:=rv1_8
 obtain ⟨v11,rfl⟩:=Conf.u8 (i:=⟨1,1,.u8,[.u8 0],[.u8],[.u8]⟩) (by kernel_rfl) rfl cv1_9
 obtain ⟨av1_10,bv1_10,rfl,cv1_10,rv1_10⟩:=rv1_9
 obtain ⟨v12,rfl⟩:=Conf.u8 (i:=⟨1,1,.u8,[.u8 0],[.u8],[.u8]⟩) (by kernel_rfl) rfl cv1_10
 obtain ⟨av1_11,bv1_11,rfl,cv1_11,rv1_11⟩:=rv1_10
 obtain ⟨v13,rfl⟩:=Conf.u8 (i:=⟨1,1,.u8,[.u8 0],[.u8],[.u8]⟩) (by kernel_rfl) rfl cv1_11
 obtain ⟨av1_12,bv1_12,rfl,cv1_12,rv1_12⟩:=rv1_11
 obtain ⟨v14,rfl⟩:=Conf.u8 (i:=⟨1,1,.u8,[.u8 0],[.u8],[.u8]⟩) (by kernel_rfl) rfl cv1_12
 obtain ⟨av1_13,bv1_13,rfl,cv1_13,rv1_13⟩:=rv1_12
 obtain ⟨v15,rfl,wv15⟩:=Conf.int (i:=⟨1,4,.int .u32,[.int .u32 0],[.int .u32],[.int .u32]⟩) (by kernel_rfl) rfl cv1_13
 obtain ⟨av1_14,bv1_14,rfl,cv1_14,rv1_14⟩:=rv1_13
 obtain ⟨v16,rfl⟩:=Conf.u8 (i:=⟨1,1,.u8,[.u8 0],[.u8],[.u8]⟩) (by kernel_rfl) rfl cv1_14
 obtain ⟨av1_15,bv1_15,rfl,cv1_15,rv1_15⟩:=rv1_14
 obtain ⟨v17,rfl⟩:=Conf.u8 (i:=⟨1,1,.u8,[.u8 0],[.u8],[.u8]⟩) (by kernel_rfl) rfl cv1_15
 obtain ⟨av1_16,bv1_16,rfl,cv1_16,rv1_16⟩:=rv1_15
 obtain ⟨v18,rfl⟩:=Conf.u8 (i:=⟨1,1,.u8,[.u8 0],[.u8],[.u8]⟩) (by kernel_rfl) rfl cv1_16
 obtain ⟨av1_17,bv1_17,rfl,cv1_17,rv1_17⟩:=rv1_16
 obtain ⟨v19,rfl,wv19⟩:=Conf.int (i:=⟨1,2,.int .u16,[.int .u16 0],[.int .u16],[.int .u16]⟩) (by kernel_rfl) rfl cv1_17
 obtain ⟨av1_18,bv1_18,rfl,cv1_18,rv1_18⟩:=rv1_17
 obtain ⟨v20,rfl,wv20⟩:=Conf.int (i:=⟨1,2,.int .u16,[.int .u16 0],[.int .u16],[.int .u16]⟩) (by kernel_rfl) rfl cv1_18
 obtain rfl:=rv1_18
 obtain ⟨i1,q1,l1,hi1,hc1,rfl,h1⟩:=h0
 rw [show G.ty 5=some ⟨1,1,.u8,[.u8 0],[.u8],[.u8]⟩ from by kernel_rfl] at hi1
 cases hi1
 obtain ⟨v21,rfl⟩:=Conf.u8 (i:=⟨1,1,.u8,[.u8 0],[.u8],[.u8]⟩) (by kernel_rfl) rfl hc1
 obtain ⟨i2,q2,l2,hi2,hc2,rfl,h2⟩:=h1
 rw [show G.ty 5=some ⟨1,1,.u8,[.u8 0],[.u8],[.u8]⟩ from by kernel_rfl] at hi2
 cases hi2
 obtain ⟨v22,rfl⟩:=Conf.u8 (i:=⟨1,1,.u8,[.u8 0],[.u8],[.u8]⟩) (by kernel_rfl) rfl hc2
 obtain ⟨i3,q3,l3,hi3,hc3,rfl,h3⟩:=h2
 rw [show G.ty 26=some ⟨1,24,.slice 25 false,[.nils],[.sl 19],[]⟩ from by kernel_rfl] at hi3
 cases hi3
 obtain ⟨eiv23,v23,heiv23,rfl,wv23,helv23⟩:=Conf.sl (i:=⟨1,24,.slice 25 false,[.nils],[.sl 19],[]⟩) (by kernel_rfl) rfl hc3
 rw [show G.ty 25=some ⟨19,28,.struct [(0,5),(1,5),(2,5),(3,5),(4,4),(5,4),(6,4),(7,5),(8,5),(9,5),(10,5),(11,5),(12,5),(13,22),(14,5),(15,5),(16,5),(17,23),(18,23)],[.u8 0,.u8 0,.u8 0,.u8 0,.bool false,.bool false,.bool false,.u8 0,.u8 0,.u8 0,.u8 0,.u8 0,.u8 0,.int .u32 0,.u8 0,.u8 0,.u8 0,.int .u16 0,.int .u16 0],[.u8,.u8,.u8,.u8,.bool,.bool,.bool,.u8,.u8,.u8,.u8,.u8,.u8,.int .u32,.u8,.u8,.u8,.int .u16,.int .u16],[.u8,.u8,.u8,.u8,.bool,.bool,.bool,.u8,.u8,.u8,.u8,.u8,.u8,.int .u32,.u8,.u8,.u8,.int .u16,.int .u16]⟩ from by kernel_rfl] at heiv23
 cases heiv23
 have hallv23:v23.all Kerb.isCase=true:=by
  rw [List.all_eq_true]
  intro x hx
  obtain ⟨qv23,hqv23,rfl⟩:=helv23 x hx
  have sv24:=Conf.struct (i:=⟨19,28,.struct [(0,5),(1,5),(2,5),(3,5),(4,4),(5,4),(6,4),(7,5),(8,5),(9,5),(10,5),(11,5),(12,5),(13,22),(14,5),(15,5),(16,5),(17,23),(18,23)],[.u8 0,.u8 0,.u8 0,.u8 0,.bool false,.bool false,.bool false,.u8 0,.u8 0,.u8 0,.u8 0,.u8 0,.u8 0,.int .u32 0,.u8 0,.u8 0,.u8 0,.int .u16 0,.int .u16 0],[.u8,.u8,.u8,.u8,.bool,.bool,.bool,.u8,.u8,.u8,.u8,.u8,.u8,.int .u32,.u8,.u8,.u8,.int .u16,.int .u16],[.u8,.u8,.u8,.u8,.bool,.bool,.bool,.u8,.u8,.u8,.u8,.u8,.u8,.int .u32,.u8,.u8,.u8,.int .u16,.int .u16]⟩) (by kernel_rfl) rfl hqv23
  obtain ⟨av24_0,bv24_0,rfl,cv24_0,rv24_0⟩:=sv24
  obtain ⟨v25,rfl⟩:=Conf.u8 (i:=⟨1,1,.u8,[.u8 0],[.u8],[.u8]⟩) (by kernel_rfl) rfl cv24_0
  obtain ⟨av24_1,bv24_1,rfl,cv24_1,rv24_1⟩:=rv24_0
  obtain ⟨v26,rfl⟩:=Conf.u8 (i:=⟨1,1,.u8,[.u8 0],[.u8],[.u8]⟩) (by kernel_rfl) rfl cv24_1
  obtain ⟨av24_2,bv24_2,rfl,cv24_2,rv24_2⟩:=rv24_1
  obtain ⟨v27,rfl⟩:=Conf.u8 (i:=⟨1,1,.u8,[.u8 0],[.u8],[.u8]⟩) (by kernel_rfl) rfl cv24_2
  obtain ⟨av24_3,bv24_3,rfl,cv24_3,rv24_3⟩:=rv24_2
  obtain ⟨v28,rfl⟩:=Conf.u8 (i:=⟨1,1,.u8,[.u8 0],[.u8],[.u8]⟩) (by kernel_rfl) rfl cv24_3
  obtain ⟨av24_4,bv24_4,rfl,cv24_4,rv24_4⟩:=rv24_3
  obtain ⟨v29,rfl⟩:=Conf.bool (i:=⟨1,1,.bool,[.bool false],[.bool],[.bool]⟩) (by kernel_rfl) rfl cv24_4
  obtain ⟨av24_5,bv24_5,rfl,cv24_5,rv24_5⟩:=rv24_4
  obtain ⟨v30,rfl⟩:=Conf.bool (i:=⟨1,1,.bool,[.bool false],[.bool],[.bool]⟩) (by kernel_rfl) rfl cv24_5
  obtain ⟨av24_6,bv24_6,rfl,cv24_6,rv24_6⟩:=rv24_5
  obtain ⟨v31,rfl⟩:=Conf.bool (i:=⟨1,1,.bool,[.bool false],[.bool],[.bool]⟩) (by kernel_rfl) rfl cv24_6
  obtain ⟨av24_7,bv24_7,rfl,cv24_7,rv24_7⟩:=rv24_6
  obtain ⟨v32,rfl⟩:=Conf.u8 (i:=⟨1,1,.u8,[.u8 0],[.u8],[.u8]⟩) (by kernel_rfl) rfl cv24_7
  obtain ⟨av24_8,bv24_8,rfl,cv24_8,rv24_8⟩:=rv24_7
  obtain ⟨v33,rfl⟩:=Conf.u8 (i:=⟨1,1,.u8,[.u8 0],[.u8],[.u8]⟩) (by kernel_rfl) rfl cv24_8
  obtain ⟨av24_9,bv24_9,rfl,cv24_9,rv24_9⟩:=rv24_8
  obtain ⟨v34,rfl⟩:=Conf.u8 (i:=⟨1,1,.u8,[.u8 0],[.u8],[.u8]⟩) (by kernel_rfl) rfl cv24_9
  obtain ⟨av24_10,bv24_10,rfl,cv24_10,rv24_10⟩:=rv24_9
  obtain ⟨v35,rfl⟩:=Conf.u8 (i:=⟨1,1,.u8,[.u8 0],[.u8],[.u8]⟩) (by kernel_rfl) rfl cv24_10
  obtain ⟨av24_11,bv24_11,rfl,cv24_11,rv24_11⟩:=rv24_10
  obtain ⟨v36,rfl⟩:=Conf.u8 (i:=⟨1,1,.u8,[.u8 0],[.u8],[.u8]⟩) (by kernel_rfl) rfl cv24_11
  obtain ⟨av24_12,bv24_12,rfl,cv24_12,rv24_12⟩:=rv24_11
  obtain ⟨v37,rfl⟩:=Conf.u8 (i:=⟨1,1,.u8,[.u8 0],[.u8],[.u8]⟩) (by kernel_rfl) rfl cv24_12
  obtain ⟨av24_13,bv24_13,rfl,cv24_13,rv24_13⟩:=rv24_12
  obtain ⟨v38,rfl,wv38⟩:=Conf.int (i:=⟨1,4,.int .u32,[.int .u32 0],[.int .u32],[.int .u32]⟩) (by kernel_rfl) rfl cv24_13
  obtain ⟨av24_14,bv24_14,rfl,cv24_14,rv24_14⟩:=rv24_13
  obtain ⟨v39,rfl⟩:=Conf.u8 (i:=⟨1,1,.u8,[.u8 0],[.u8],[.u8]⟩) (by kernel_rfl) rfl cv24_14
  obtain ⟨av24_15,bv24_15,rfl,cv24_15,rv24_15⟩:=rv24_14
  obtain ⟨v40,rfl⟩:=Conf.u8 (i:=⟨1,1,.u8,[.u8 0],[.u8],[.u8]⟩) (by kernel_rfl) rfl cv24_15
  obtain ⟨av24_16,bv24_16,rfl,cv24_16,rv24_16⟩:=rv24_15
  obtain ⟨v41,rfl⟩:=Conf.u8 (i:=⟨1,1,.u8,[.u8 0],[.u8],[.u8]⟩) (by kernel_rfl) rfl cv24_16
  obtain ⟨av24_17,bv24_17,rfl,cv24_17,rv24_17⟩:=rv24_16
  obtain ⟨v42,rfl,wv42⟩:=Conf.int (i:=⟨1,2,.int .u16,[.int .u16 0],[.int .u16],[.int .u16]⟩) (by kernel_rfl) rfl cv24_17
  obtain ⟨av24_18,bv24_18,rfl,cv24_18,rv24_18⟩:=rv24_17
  obtain ⟨v43,rfl,wv43⟩:=Conf.int (i:=⟨1,2,.int .u16,[.int .u16 0],[.int .u16],[.int .u16]⟩) (by kernel_rfl) rfl cv24_18
  obtain rfl:=rv24_18
  have gv38:0≤v38∧v38≤4294967295:=by
   simpa [Lit.wf,Zx,Zw,Zz,Zy] using wv38
  have gv42:0≤v42∧v42≤65535:=by
   simpa [Lit.wf,Zx,Zw,Zz,Zy] using wv42
  have gv43:0≤v43∧v43≤65535:=by
   simpa [Lit.wf,Zx,Zw,Zz,Zy] using wv43
  show Kerb.isCase (.agg [.u8 v25,.u8 v26,.u8 v27,.u8 v28,.bool v29,.bool v30,.bool v31,.u8 v32,.u8 v33,.u8 v34,.u8 v35,.u8 v36,.u8 v37,.int .u32 v38,.u8 v39,.u8 v40,.u8 v41,.int .u16 v42,.int .u16 v43])=true
  simp only [Kerb.isCase,Bool.and_eq_true,decide_eq_true_eq]
  omega
 obtain rfl:=h3
 show callOf G.tab 17 6 [.agg [.u8 v2,.u8 v3,.u8 v4,.u8 v5,.bool v6,.bool v7,.bool v8,.u8 v9,.u8 v10,.u8 v11,.u8 v12,.u8 v13,.u8 v14,.int .u32 v15,.u8 v16,.u8 v17,.u8 v18,.int .u16 v19,.int .u16 v20],.u8 v21,.u8 v22,.sl 19 v23] []=some (.bool true,[])
 have gv15:0≤v15∧v15≤4294967295:=by
  simpa [Lit.wf,Zx,Zw,Zz,Zy] using wv15
 have gv19:0≤v19∧v19≤65535:=by
  simpa [Lit.wf,Zx,Zw,Zz,Zy] using wv19
 have gv20:0≤v20∧v20≤65535:=by
  simpa [Lit.wf,Zx,Zw,Zz,Zy] using wv20
 refine Eq.trans (b:=chk (v23.all Kerb.isCase&&decide (0≤v15)&&decide (v15≤4294967295)&&decide (0≤v19)&&decide (v19≤65535)&&decide (0≤v20)&&decide (v20≤65535)) (some (.bool true,[]))) (by kernel_rfl) ?_
 rw [chk_of (by simp only [hallv23,Bool.and_eq_true,decide_eq_true_eq,true_and,and_true];omega)]
set_option maxRecDepth 100000 in
theorem lifted (os:Os) (started:os.Started) (H:Type) (enc:TypeId×Value→H) :
  ReturnsInHanded {} Tryz.checked os 6 .any (Rows.verifierOnceSpec.pre6 enc Tryz.prog Tryz.f6 Rows.verifierOnceRow.domain false) (Rows.verifierOnceSpec.post enc Tryz.prog Tryz.f6 false true false false):=by
 refine returnsInHanded_of_change (C:=Tryz.checked) own started (by kernel_rfl) Tryz.func6
  (ChangeSpec.witness6 (enc:=enc) (C:=Tryz.checked) false ⟨#[],#[.agg #[.int .u8 0,.int .u8 0,.int .u8 0,.int .u8 0,.bool false,.bool false,.bool false,.int .u8 0,.int .u8 0,.int .u8 0,.int .u8 0,.int .u8 0,.int .u8 0,.int .u32 0,.int .u8 0,.int .u8 0,.int .u8 0,.int .u16 0,.int .u16 0],.int .u8 0,.int .u8 0,.slice none 0 0],[]⟩ 8 (by kernel_rfl) (by kernel_rfl) (by kernel_rfl) (by kernel_rfl)) ?_
 exact law_contract (C:=Tryz.checked) (G:=G) (k:=17) (rt:=4) tab rfl laidOut Tryz.func6 (by decide +kernel) (by kernel_rfl) (by kernel_rfl) Tryz.underlying4 (by kernel_rfl)
  (by
   have hall:(Tryz.f6.params.toList.all fun t=>covers G.ty 20 t&&Tryz.prog.readableRec t&&decide (t<Tryz.prog.types.size))=true:=by kernel_rfl
   intro t ht
   have:=List.all_eq_true.1 hall t ht
   simp only [Bool.and_eq_true,decide_eq_true_eq] at this
   exact ⟨this.1.1,this.1.2,this.2⟩) rfl
  (by
   intro H ds hds
   have hlen:Tryz.f6.params.toList.length=ds.length:=hds.symm
   have h3:ds.length=4:=hds.trans (by kernel_rfl)
   exact (match ds,h3 with | [d0,d1,d2,d3],_=>rfl)) law
theorem and_t {a b:Bool} (h:a=true) (g:b=true):(a&&b)=true:=by rw [h,g];rfl
theorem j0:(Rows.verifierOnceRow.wf (OpenSpec.ofChange Rows.verifierOnceSpec)&&laidOutB Tryz.prog&&mapsRowed Tryz.prog&&Tryz.f6.params.all (Tryz.prog.readableRec ·)&&namedTie Tryz.prog Rows.verifierOnceRow.named Rows.verifierOnceSpec.vars&&(Rows.verifierOnceRow.stops==[])&&(Tryz.prog.stops==[])&&(Rows.verifierOnceRow.knobs==[])&&(Tryz.prog.stopKnobs==[]))=true:=by kernel_rfl
theorem j9:(Rows.verifierOnceRow.inPlace==Tryz.prog.inPlace 6)=true:=by kernel_rfl
theorem j10:(Rows.verifierOnceRow.unfollowed==Tryz.prog.unfollowed 6)=true:=by kernel_rfl
theorem j11:(Rows.verifierOnceRow.recurses==Tryz.prog.recurses 6)=true:=by kernel_rfl
theorem j12:(Rows.verifierOnceRow.named==Tryz.prog.varsNamed 6)=true:=by kernel_rfl
theorem j24:(Tryz.prog.stopsHeard)=true:=by kernel_rfl
theorem j25:(Tryz.prog.mayEnter)=true:=by kernel_rfl
theorem j26:(Rows.verifierOnceRow.lifted==Tryz.prog.liftsFinal)=true:=by kernel_rfl
theorem joined:joinedFacts Tryz.prog 6 Tryz.f6 Rows.verifierOnceSpec Rows.verifierOnceRow=true:=by
 unfold joinedFacts
 exact (and_t (and_t (and_t (and_t (and_t (and_t (and_t (and_t (and_t (and_t (and_t (and_t (and_t (and_t (and_t (and_t (and_t (and_t (and_t (and_t (and_t (and_t (and_t j0 j9) j10) j11) j12) (by kernel_rfl)) (by kernel_rfl)) (by kernel_rfl)) (by kernel_rfl)) (by kernel_rfl)) (by kernel_rfl)) (by kernel_rfl)) (by kernel_rfl)) (by kernel_rfl)) (by kernel_rfl)) (by kernel_rfl)) j24) j25) j26) (by kernel_rfl)) (by kernel_rfl)) (by kernel_rfl)) (by kernel_rfl)) (by kernel_rfl))
theorem over:Rows.verifierOnceRow.holds Tryz.pinned (OpenSpec.ofChange Rows.verifierOnceSpec) :=
 OpenClaim.holds_of_wide 6 Tryz.f6 rfl rfl rfl rfl rfl rfl rfl ⟨rfl,rfl,rfl,rfl,rfl⟩ rfl rfl rfl rfl rfl (by kernel_rfl) Tryz.func6 joined
  (of_decide_eq_true (by kernel_rfl)) (by unfold Func.isWrapper;first | (rw [if_pos (by decide +kernel)];kernel_rfl) | (rw [if_neg (by decide +kernel)];exact ⟨rfl,rfl⟩))
  (fun os started H enc _=>lifted os started H enc)
theorem proved:Rows.VerifierOnceSaid:=over
end Go.Proofs.YtiplnpablmohiaaGreat.verifierOnce
namespace Go.Proofs.YtiplnpablmohiaaGreat
/-- The statement. -/
theorem verifierOnce_holds:Rows.VerifierOnceSaid:=verifierOnce.proved
end Go.Proofs.YtiplnpablmohiaaGreat
