/- Proved: the law 'GrantBounds' returns true for every input, and each argument reads afterwards as it read before. Its conditions are those of the given row alone. -/
import Derived.Test.YtmdppipjjnfanaaGreatDoorTop
import Derived.Test.YtmdppipjjnfanaaGreatDoorAbsGlob
import Derived.Test.YtmdppipjjnfanaaGreatDoorCards
import Derived.Test.YtmdppipjjnfanaaGreatDoorTie
import Derived.Lay
import Derived.SevenTiedAt
import Derived.Handed
namespace Go.Proofs.YtmdppipjjnfanaaGreatDoor.grantBounds
open Go Go.Abs Go.Proofs
open Go.ChangeShapes Go.WideShapes Go.ChangeAt Go.RowKit
set_option linter.unusedVariables false
theorem law (l:List AV) (h:ConfArgs G.ty Tryz.f3.params.toList l):callOf G.tab 17 3 l []=some (.bool true,[]):=by
 obtain ⟨i0,q0,l0,hi0,hc0,rfl,h0⟩:=h
 rw [show G.ty 22=some ⟨1,24,.slice 5 true,[.nils],[.bsl],[]⟩ from by kernel_rfl] at hi0
 cases hi0
 obtain ⟨v1,rfl,wv1⟩:=Conf.bs (i:=⟨1,24,.slice 5 true,[.nils],[.bsl],[]⟩) (by kernel_rfl) rfl hc0
 obtain ⟨i1,q1,l1,hi1,hc1,rfl,h1⟩:=h0
 rw [show G.ty 23=some ⟨1,24,.slice 45 false,[.nils],[.sl 26],[]⟩ from by kernel_rfl] at hi1
 cases hi1
 obtain ⟨eiv2,v2,heiv2,rfl,wv2,helv2⟩:=Conf.sl (i:=⟨1,24,.slice 45 false,[.nils],[.sl 26],[]⟩) (by kernel_rfl) rfl hc1
 rw [show G.ty 45=some ⟨26,36,.struct [(0,34),(19,5),(20,5),(21,5),(22,5),(23,5),(24,5),(25,32)],[.u8 0,.u8 0,.u8 0,.u8 0,.bool false,.bool false,.bool false,.u8 0,.u8 0,.u8 0,.u8 0,.u8 0,.u8 0,.int .u32 0,.u8 0,.u8 0,.u8 0,.int .u16 0,.int .u16 0,.u8 0,.u8 0,.u8 0,.u8 0,.u8 0,.u8 0,.int .u16 0],[.u8,.u8,.u8,.u8,.bool,.bool,.bool,.u8,.u8,.u8,.u8,.u8,.u8,.int .u32,.u8,.u8,.u8,.int .u16,.int .u16,.u8,.u8,.u8,.u8,.u8,.u8,.int .u16],[.u8,.u8,.u8,.u8,.bool,.bool,.bool,.u8,.u8,.u8,.u8,.u8,.u8,.int .u32,.u8,.u8,.u8,.int .u16,.int .u16,.u8,.u8,.u8,.u8,.u8,.u8,.int .u16]⟩ from by kernel_rfl] at heiv2
 cases heiv2
 have hallv2:v2.all Kerb.isTAsk=true:=by
  rw [List.all_eq_true]
  intro x hx
  obtain ⟨qv2,hqv2,rfl⟩:=helv2 x hx
  have sv3:=Conf.struct (i:=⟨26,36,.struct [(0,34),(19,5),(20,5),(21,5),(22,5),(23,5),(24,5),(25,32)],[.u8 0,.u8 0,.u8 0,.u8 0,.bool false,.bool false,.bool false,.u8 0,.u8 0,.u8 0,.u8 0,.u8 0,.u8 0,.int .u32 0,.u8 0,.u8 0,.u8 0,.int .u16 0,.int .u16 0,.u8 0,.u8 0,.u8 0,.u8 0,.u8 0,.u8 0,.int .u16 0],[.u8,.u8,.u8,.u8,.bool,.bool,.bool,.u8,.u8,.u8,.u8,.u8,.u8,.int .u32,.u8,.u8,.u8,.int .u16,.int .u16,.u8,.u8,.u8,.u8,.u8,.u8,.int .u16],[.u8,.u8,.u8,.u8,.bool,.bool,.bool,.u8,.u8,.u8,.u8,.u8,.u8,.int .u32,.u8,.u8,.u8,.int .u16,.int .u16,.u8,.u8,.u8,.u8,.u8,.u8,.int .u16]⟩) (by kernel_rfl) rfl hqv2
  obtain ⟨av3_0,bv3_0,rfl,cv3_0,rv3_0⟩:=sv3
  have sv4:=Conf.struct (i:=⟨19,28,.struct [(0,5),(1,5),(2,5),(3,5),(4,4),(5,4),(6,4),(7,5),(8,5),(9,5),(10,5),(11,5),(12,5),(13,31),(14,5),(15,5),(16,5),(17,32),(18,32)],[.u8 0,.u8 0,.u8 0,.u8 0,.bool false,.bool false,.bool false,.u8 0,.u8 0,.u8 0,.u8 0,.u8 0,.u8 0,.int .u32 0,.u8 0,.u8 0,.u8 0,.int .u16 0,.int .u16 0],[.u8,.u8,.u8,.u8,.bool,.bool,.bool,.u8,.u8,.u8,.u8,.u8,.u8,.int .u32,.u8,.u8,.u8,.int .u16,.int .u16],[.u8,.u8,.u8,.u8,.bool,.bool,.bool,.u8,.u8,.u8,.u8,.u8,.u8,.int .u32,.u8,.u8,.u8,.int .u16,.int .u16]⟩) (by kernel_rfl) rfl cv3_0
  obtain ⟨av4_0,bv4_0,rfl,cv4_0,rv4_0⟩:=sv4
  obtain ⟨v5,rfl⟩:=Conf.u8 (i:=⟨1,1,.u8,[.u8 0],[.u8],[.u8]⟩) (by kernel_rfl) rfl cv4_0
  obtain ⟨av4_1,bv4_1,rfl,cv4_1,rv4_1⟩:=rv4_0
  obtain ⟨v6,rfl⟩:=Conf.u8 (i:=⟨1,1,.u8,[.u8 0],[.u8],[.u8]⟩) (by kernel_rfl) rfl cv4_1
  obtain ⟨av4_2,bv4_2,rfl,cv4_2,rv4_2⟩:=rv4_1
  obtain ⟨v7,rfl⟩:=Conf.u8 (i:=⟨1,1,.u8,[.u8 0],[.u8],[.u8]⟩) (by kernel_rfl) rfl cv4_2
  obtain ⟨av4_3,bv4_3,rfl,cv4_3,rv4_3⟩:=rv4_2
  obtain ⟨v8,rfl⟩:=Conf.u8 (i:=⟨1,1,.u8,[.u8 0],[.u8],[.u8]⟩) (by kernel_rfl) rfl cv4_3
  obtain ⟨av4_4,bv4_4,rfl,cv4_4,rv4_4⟩:=rv4_3
  obtain ⟨v9,rfl⟩:=Conf.bool (i:=⟨1,1,.bool,[.bool false],[.bool],[.bool]⟩) (by kernel_rfl) rfl cv4_4
  obtain ⟨av4_5,bv4_5,rfl,cv4_5,rv4_5⟩:=rv4_4
  obtain ⟨v10,rfl⟩:=Conf.bool (i:=⟨1,1,.bool,[.bool false],[.bool],[.bool]⟩) (by kernel_rfl) rfl cv4_5
  obtain ⟨av4_6,bv4_6,rfl,cv4_6,rv4_6⟩:=rv4_5
  obtain ⟨v11,rfl⟩:=Conf.bool (i:=⟨1,1,.bool,[.bool false],[.bool],[.bool]⟩) (by kernel_rfl) rfl cv4_6
  obtain ⟨av4_7,bv4_7,rfl,cv4_7,rv4_7⟩:=rv4_6
  obtain ⟨v12,rfl⟩:=Conf.u8 (i:=⟨1,1,.u8,[.u8 0],[.u8],[.u8]⟩) (by kernel_rfl) rfl cv4_7
  obtain ⟨av4_8,bv4_8,rfl,cv4_8,rv4_8⟩:=rv4_7
  obtain ⟨v13,rfl⟩:=Conf.u8 (i:=⟨1,1,.u8,[.u8 0],[.u8],[.u8]⟩) (by kernel_rfl) rfl cv4_8
  obtain ⟨av4_9,bv4_9,rfl,cv4_9,rv4_9⟩:=rv4_8
  obtain ⟨v14,rfl⟩:=Conf.u8 (i:=⟨1,1,.u8,[.u8 0],[.u8],[.u8]⟩) (by kernel_rfl) rfl cv4_9
  obtain ⟨av4_10,bv4_10,rfl,cv4_10,rv4_10⟩:=rv4_9
  obtain ⟨v15,rfl⟩:=Conf.u8 (i:=⟨1,1,.u8,[.u8 0],[.u8],[.u8]⟩) (by kernel_rfl) rfl cv4_10
  obtain ⟨av4_11,bv4_11,rfl,cv4_11,rv4_11⟩:=rv4_10
  obtain ⟨v16,rfl⟩:=Conf.u8 (i:=⟨1,1,.u8,[.u8 0],[.u8],[.u8]⟩) (by kernel_rfl) rfl cv4_11
  obtain ⟨av4_12,bv4_12,rfl,cv4_12,rv4_12⟩:=rv4_11
  obtain ⟨v17,rfl⟩:=Conf.u8 (i:=⟨1,1,.u8,[.u8 0],[.u8],[.u8]⟩) (by kernel_rfl) rfl cv4_12
  obtain ⟨av4_13,bv4_13,rfl,cv4_13,rv4_13⟩:=rv4_12
  obtain ⟨v18,rfl,wv18⟩:=Conf.int (i:=⟨1,4,.int .u32,[.int .u32 0],[.int .u32],[.int .u32]⟩) (by kernel_rfl) rfl cv4_13
  obtain ⟨av4_14,bv4_14,rfl,cv4_14,rv4_14⟩:=rv4_13
  obtain ⟨v19,rfl⟩:=Conf.u8 (i:=⟨1,1,.u8,[.u8 0],[.u8],[.u8]⟩) (by kernel_rfl) rfl cv4_14
  obtain ⟨av4_15,bv4_15,rfl,cv4_15,rv4_15⟩:=rv4_14
  obtain ⟨v20,rfl⟩:=Conf.u8 (i:=⟨1,1,.u8,[.u8 0],[.u8],[.u8]⟩) (by kernel_rfl) rfl cv4_15
  obtain ⟨av4_16,bv4_16,rfl,cv4_16,rv4_16⟩:=rv4_15
  obtain ⟨v21,rfl⟩:=Conf.u8 (i:=⟨1,1,.u8,[.u8 0],[.u8],[.u8]⟩) (by kernel_rfl) rfl cv4_16
  obtain ⟨av4_17,bv4_17,rfl,cv4_17,rv4_17⟩:=rv4_16
  obtain ⟨v22,rfl,wv22⟩:=Conf.int (i:=⟨1,2,.int .u16,[.int .u16 0],[.int .u16],[.int .u16]⟩) (by kernel_rfl) rfl cv4_17
  obtain ⟨av4_18,bv4_18,rfl,cv4_18,rv4_18⟩:=rv4_17
  obtain ⟨v23,rfl,wv23⟩:=Conf.int (i:=⟨1,2,.int .u16,[.int .u16 0],[.int .u16],[.int .u16]⟩) (by kernel_rfl) rfl cv4_18
  obtain rfl:=rv4_18
  obtain ⟨av3_1,bv3_1,rfl,cv3_1,rv3_1⟩:=rv3_0
  obtain ⟨v24,rfl⟩:=Conf.u8 (i:=⟨1,1,.u8,[.u8 0],[.u8],[.u8]⟩) (by kernel_rfl) rfl cv3_1
  obtain ⟨av3_2,bv3_2,rfl,cv3_2,rv3_2⟩:=rv3_1
  obtain ⟨v25,rfl⟩:=Conf.u8 (i:=⟨1,1,.u8,[.u8 0],[.u8],[.u8]⟩) (by kernel_rfl) rfl cv3_2
  obtain ⟨av3_3,bv3_3,rfl,cv3_3,rv3_3⟩:=rv3_2
  obtain ⟨v26,rfl⟩:=Conf.u8 (i:=⟨1,1,.u8,[.u8 0],[.u8],[.u8]⟩) (by kernel_rfl) rfl cv3_3
  obtain ⟨av3_4,bv3_4,rfl,cv3_4,rv3_4⟩:=rv3_3
  obtain ⟨v27,rfl⟩:=Conf.u8 (i:=⟨1,1,.u8,[.u8 0],[.u8],[.u8]⟩) (by kernel_rfl) rfl cv3_4
  obtain ⟨av3_5,bv3_5,rfl,cv3_5,rv3_5⟩:=rv3_4
  obtain ⟨v28,rfl⟩:=Conf.u8 (i:=⟨1,1,.u8,[.u8 0],[.u8],[.u8]⟩) (by kernel_rfl) rfl cv3_5
  obtain ⟨av3_6,bv3_6,rfl,cv3_6,rv3_6⟩:=rv3_5
  obtain ⟨v29,rfl⟩:=Conf.u8 (i:=⟨1,1,.u8,[.u8 0],[.u8],[.u8]⟩) (by kernel_rfl) rfl cv3_6
  obtain ⟨av3_7,bv3_7,rfl,cv3_7,rv3_7⟩:=rv3_6
  obtain ⟨v30,rfl,wv30⟩:=Conf.int (i:=⟨1,2,.int .u16,[.int .u16 0],[.int .u16],[.int .u16]⟩) (by kernel_rfl) rfl cv3_7
  obtain rfl:=rv3_7
  have gv18:0≤v18∧v18≤4294967295:=by
   simpa [Lit.wf,IntKind.min,IntKind.max,IntKind.signed,IntKind.bits] using wv18
  have gv22:0≤v22∧v22≤65535:=by
   simpa [Lit.wf,IntKind.min,IntKind.max,IntKind.signed,IntKind.bits] using wv22
  have gv23:0≤v23∧v23≤65535:=by
   simpa [Lit.wf,IntKind.min,IntKind.max,IntKind.signed,IntKind.bits] using wv23
  have gv30:0≤v30∧v30≤65535:=by
   simpa [Lit.wf,IntKind.min,IntKind.max,IntKind.signed,IntKind.bits] using wv30
  show Kerb.isTAsk (.agg [.u8 v5,.u8 v6,.u8 v7,.u8 v8,.bool v9,.bool v10,.bool v11,.u8 v12,.u8 v13,.u8 v14,.u8 v15,.u8 v16,.u8 v17,.int .u32 v18,.u8 v19,.u8 v20,.u8 v21,.int .u16 v22,.int .u16 v23,.u8 v24,.u8 v25,.u8 v26,.u8 v27,.u8 v28,.u8 v29,.int .u16 v30])=true
  simp only [Kerb.isTAsk,Bool.and_eq_true,decide_eq_true_eq]
  omega
 obtain ⟨i2,q2,l2,hi2,hc2,rfl,h2⟩:=h1
 rw [show G.ty 5=some ⟨1,1,.u8,[.u8 0],[.u8],[.u8]⟩ from by kernel_rfl] at hi2
 cases hi2
 obtain ⟨v31,rfl⟩:=Conf.u8 (i:=⟨1,1,.u8,[.u8 0],[.u8],[.u8]⟩) (by kernel_rfl) rfl hc2
 obtain ⟨i3,q3,l3,hi3,hc3,rfl,h3⟩:=h2
 rw [show G.ty 5=some ⟨1,1,.u8,[.u8 0],[.u8],[.u8]⟩ from by kernel_rfl] at hi3
 cases hi3
 obtain ⟨v32,rfl⟩:=Conf.u8 (i:=⟨1,1,.u8,[.u8 0],[.u8],[.u8]⟩) (by kernel_rfl) rfl hc3
 obtain ⟨i4,q4,l4,hi4,hc4,rfl,h4⟩:=h3
 rw [show G.ty 5=some ⟨1,1,.u8,[.u8 0],[.u8],[.u8]⟩ from by kernel_rfl] at hi4
 cases hi4
 obtain ⟨v33,rfl⟩:=Conf.u8 (i:=⟨1,1,.u8,[.u8 0],[.u8],[.u8]⟩) (by kernel_rfl) rfl hc4
 obtain ⟨i5,q5,l5,hi5,hc5,rfl,h5⟩:=h4
 rw [show G.ty 5=some ⟨1,1,.u8,[.u8 0],[.u8],[.u8]⟩ from by kernel_rfl] at hi5
 cases hi5
 obtain ⟨v34,rfl⟩:=Conf.u8 (i:=⟨1,1,.u8,[.u8 0],[.u8],[.u8]⟩) (by kernel_rfl) rfl hc5
 obtain ⟨i6,q6,l6,hi6,hc6,rfl,h6⟩:=h5
 rw [show G.ty 5=some ⟨1,1,.u8,[.u8 0],[.u8],[.u8]⟩ from by kernel_rfl] at hi6
 cases hi6
 obtain ⟨v35,rfl⟩:=Conf.u8 (i:=⟨1,1,.u8,[.u8 0],[.u8],[.u8]⟩) (by kernel_rfl) rfl hc6
 obtain ⟨i7,q7,l7,hi7,hc7,rfl,h7⟩:=h6
 rw [show G.ty 4=some ⟨1,1,.bool,[.bool false],[.bool],[.bool]⟩ from by kernel_rfl] at hi7
 cases hi7
 obtain ⟨v36,rfl⟩:=Conf.bool (i:=⟨1,1,.bool,[.bool false],[.bool],[.bool]⟩) (by kernel_rfl) rfl hc7
 obtain rfl:=h7
 show callOf G.tab 17 3 [.bs v1,.sl 26 v2,.u8 v31,.u8 v32,.u8 v33,.u8 v34,.u8 v35,.bool v36] []=some (.bool true,[])
 refine Eq.trans (b:=chk (v2.all Kerb.isTAsk) (some (.bool true,[]))) (by kernel_rfl) ?_
 have gv1:v1.length≤9223372036854775807:=wv1
 rw [chk_of (by first | exact hallv2 | simp only [hallv2,Bool.and_self])]
theorem glob (W:World) (call:CallT) (h:laidMetH Tryz.prog Rows.grantBoundsRow.laid W):GlobOK ⟨G.ty,fun _=>[],G.own,call,G.glob,[],0,fun _=>none⟩ W (pfull W):=by
 intro q cs hq
 rw [MakeChecks.laidMetH_plain _ _ _ (by kernel_rfl)] at h
 have hq':look q globT=some cs:=hq
 simp only [globT,look] at hq'
 cases hb:Nat.beq 0 q with
 | false=>rw [hb] at hq';cases hq'
 | true =>
  rw [hb] at hq'
  have:=Nat.eq_of_beq_eq_true hb
  subst this
  cases hq'
  exact glob_texts (P := Tryz.prog) (n := "kerbsuite/kdcmessage.texts") (t := 220) (e := 9) (m := 10) (ss := [[99, 108, 105, 101, 110, 116, 32, 101, 120, 112, 105, 114, 101, 100], [115, 101, 114, 118, 105, 99, 101, 32, 101, 120, 112, 105, 114, 101, 100], [110, 111, 32, 108, 105, 102, 101, 116, 105, 109, 101, 32, 108, 101, 102, 116], [112, 114, 111, 116, 111, 99, 111, 108, 32, 118, 101, 114, 115, 105, 111, 110], [110, 111, 116, 32, 97, 32, 99, 108, 105, 101, 110, 116], [110, 111, 116, 32, 97, 32, 115, 101, 114, 118, 105, 99, 101], [98, 121, 116, 101, 32, 111, 114, 100, 101, 114], [112, 114, 105, 110, 99, 105, 112, 97, 108, 32, 117, 110, 107, 110, 111, 119, 110], [112, 114, 105, 110, 99, 105, 112, 97, 108, 32, 110, 111, 116, 32, 117, 110, 105, 113, 117, 101], [110, 111, 32, 107, 101, 121]]) (by kernel_rfl) (by kernel_rfl) Tryz.underlying220 Tryz.underlying9 (by kernel_rfl) h
set_option maxRecDepth 100000 in
theorem lifted (os:Os) (started:os.Started) (H:Type) (enc:TypeId×Value→H) :
  ReturnsInHanded {} Tryz.checked os 3 .any (fun w args=>(Rows.grantBoundsSpec.pre enc Tryz.prog Tryz.f3 [] false w args∧laidMetH Tryz.prog Rows.grantBoundsRow.laid w)∧sizedMet enc Tryz.prog Tryz.f3 (OpenSpec.ofChange Rows.grantBoundsSpec) false w args)
   (Rows.grantBoundsSpec.post enc Tryz.prog Tryz.f3 false true false false):=by
 refine returnsInHanded_of_change_and (C:=Tryz.checked) (X:=fun w _=>laidMetH Tryz.prog Rows.grantBoundsRow.laid w) (fun _ _ _ hh h=>h.of_heap hh) own started (by kernel_rfl) Tryz.func3
  (ChangeSpec.witness_shaped (enc:=enc) (C:=Tryz.checked) (os:=os) (X:=fun w _=>laidMetH Tryz.prog Rows.grantBoundsRow.laid w) false (World.laidAll Tryz.prog os Rows.grantBoundsRow.laid) #[.slice none 0 0,.slice none 0 0,.int .u8 0,.int .u8 0,.int .u8 0,.int .u8 0,.int .u8 0,.bool false] 8 (World.laidAll_os _ _ _)
   (World.shaped_of_ZipB (by kernel_rfl) (by kernel_rfl)) (by kernel_rfl) (by kernel_rfl) (by kernel_rfl)
   (by rw [MakeChecks.laidMetH_plain _ _ _ (by kernel_rfl)];exact laidMet_laidAll _ (by kernel_rfl) (by kernel_rfl))) ?_
 intro W base args ds gs before hval hW hconds _ hX hholds
 exact law_contract_at (C:=Tryz.checked) (G:=G) (k:=17) (rt:=4) tab laidOut Tryz.func3 (by decide +kernel) (by kernel_rfl) (by kernel_rfl) Tryz.underlying4 (by kernel_rfl)
  (by
   have hall:(Tryz.f3.params.toList.all fun t=>covers G.ty 20 t&&Tryz.prog.readableRec t&&decide (t<Tryz.prog.types.size))=true:=by kernel_rfl
   intro t ht
   have:=List.all_eq_true.1 hall t ht
   simp only [Bool.and_eq_true,decide_eq_true_eq] at this
   exact ⟨this.1.1,this.1.2,this.2⟩) rfl
  (by
   intro H ds hds
   have hlen:Tryz.f3.params.toList.length=ds.length:=hds.symm
   have h3:ds.length=8:=hds.trans (by kernel_rfl)
   exact (match ds,h3 with | [d0,d1,d2,d3,d4,d5,d6,d7],_=>rfl)) law W base args ds gs before (glob W _ hX) hval hW hconds hholds
theorem and_t {a b:Bool} (h:a=true) (g:b=true):(a&&b)=true:=by rw [h,g];rfl
theorem j0:(Rows.grantBoundsRow.wf (OpenSpec.ofChange Rows.grantBoundsSpec)&&laidOutB Tryz.prog&&mapsRowed Tryz.prog&&Tryz.f3.params.all (Tryz.prog.readableRec ·)&&namedTie Tryz.prog Rows.grantBoundsRow.named Rows.grantBoundsSpec.vars&&(Rows.grantBoundsRow.stops==[])&&(Tryz.prog.stops==[])&&(Rows.grantBoundsRow.knobs==[])&&(Tryz.prog.stopKnobs==[]))=true:=by kernel_rfl
theorem j9:(Rows.grantBoundsRow.inPlace==Tryz.prog.inPlace 3)=true:=by kernel_rfl
theorem j10:(Rows.grantBoundsRow.unfollowed==Tryz.prog.unfollowed 3)=true:=by kernel_rfl
theorem j11:(Rows.grantBoundsRow.recurses==Tryz.prog.recurses 3)=true:=by kernel_rfl
theorem j12:(Rows.grantBoundsRow.named==Tryz.prog.varsNamed 3)=true:=by kernel_rfl
theorem j24:(Tryz.prog.stopsHeard)=true:=by kernel_rfl
theorem j25:(Tryz.prog.mayEnter)=true:=by kernel_rfl
theorem j26:(Rows.grantBoundsRow.lifted==Tryz.prog.liftsFinal)=true:=by kernel_rfl
theorem joined:joinedFacts Tryz.prog 3 Tryz.f3 Rows.grantBoundsSpec Rows.grantBoundsRow=true:=by
 unfold joinedFacts
 exact (and_t (and_t (and_t (and_t (and_t (and_t (and_t (and_t (and_t (and_t (and_t (and_t (and_t (and_t (and_t (and_t (and_t (and_t (and_t (and_t (and_t (and_t (and_t j0 j9) j10) j11) j12) (by kernel_rfl)) (by kernel_rfl)) (by kernel_rfl)) (by kernel_rfl)) (by kernel_rfl)) (by kernel_rfl)) (by kernel_rfl)) (by kernel_rfl)) (by kernel_rfl)) (by kernel_rfl)) (by kernel_rfl)) j24) j25) j26) (by kernel_rfl)) (by kernel_rfl)) (by kernel_rfl)) (by kernel_rfl)) (by kernel_rfl))
theorem over:Rows.grantBoundsRow.holds Tryz.pinned (OpenSpec.ofChange Rows.grantBoundsSpec) :=
 OpenClaim.holds_of_wide 3 Tryz.f3 rfl rfl rfl rfl rfl rfl rfl ⟨rfl,rfl,rfl,rfl,rfl⟩ rfl rfl rfl rfl rfl (by kernel_rfl) Tryz.func3 joined
  (of_decide_eq_true (by kernel_rfl)) (by unfold Func.isWrapper;first | (rw [if_pos (by decide +kernel)];kernel_rfl) | (rw [if_neg (by decide +kernel)];exact ⟨rfl,rfl⟩))
  (fun os started H enc _=>lifted os started H enc)
theorem proved:Rows.GrantBoundsCardSaid :=
 Claim7.holds_tied_plain_at .later [] [.data] true (true, "5a8dfc18fb86ea1a1b7b01ec5e737276fce1a87838c623f5cd5c1f6411de1ae9") false over (fun _ h => by cases h) (by kernel_rfl) (fun _ h => by cases h) grantBounds_row_tie rfl ⟨rfl, rfl⟩ (by kernel_rfl) rfl
  (fun f fn hf hfn=>by
   obtain rfl : f = 3 := Option.some.inj ((show Tryz.prog.funcNamed "kerbsuite/kerbsuitelaw19.GrantBounds" = some 3 by kernel_rfl).symm.trans hf) |>.symm
   obtain rfl:fn=Tryz.f3:=(Option.some.inj (Tryz.func3.symm.trans hfn)).symm
   exact ⟨by kernel_rfl,fun j t ht=>by
    have hm:t∈Tryz.f3.params.toList:=by simpa using Array.mem_of_getElem? ht
    have hall:(Tryz.f3.params.toList.all fun u => !Tryz.prog.wantsStandIn u)=true:=by kernel_rfl
    exact (show Tryz.prog.wantsStandIn t=false by simpa using List.all_eq_true.1 hall t hm)⟩)
  (by kernel_rfl)
end Go.Proofs.YtmdppipjjnfanaaGreatDoor.grantBounds
namespace Go.Proofs.YtmdppipjjnfanaaGreatDoor
/-- The statement. -/
theorem grantBounds_holds:Rows.GrantBoundsCardSaid:=grantBounds.proved
end Go.Proofs.YtmdppipjjnfanaaGreatDoor
