/- Proved: the law 'GrantOnce' returns true for every input, and each argument reads afterwards as it read before. Its conditions are those of the given row alone. -/
import Derived.Test.YtmpklfnpjhdjeaaGreatDoorTop
import Derived.Test.YtmpklfnpjhdjeaaGreatDoorAbsGlob
import Derived.Test.YtmpklfnpjhdjeaaGreatDoorCards
import Derived.Test.YtmpklfnpjhdjeaaGreatDoorTie
import Derived.Lay
import Derived.SevenTiedAt
import Derived.Handed
namespace Go.Proofs.YtmpklfnpjhdjeaaGreatDoor.grantOnce
open Go Go.Abs Go.Proofs
open Go.ChangeShapes Go.WideShapes Go.ChangeAt Go.RowKit
set_option linter.unusedVariables false
theorem law (l:List AV) (h:ConfArgs G.ty Tryz.f3.params.toList l):callOf G.tab 17 3 l []=some (.bool true,[]):=by
 obtain ⟨i0,q0,l0,hi0,hc0,rfl,h0⟩:=h
 rw [show G.ty 22=some ⟨1,24,.slice 5 true,[.nils],[.bsl],[]⟩ from by kernel_rfl] at hi0
 cases hi0
 obtain ⟨v1,rfl,wv1⟩:=Conf.bs (i:=⟨1,24,.slice 5 true,[.nils],[.bsl],[]⟩) (by kernel_rfl) rfl hc0
 obtain ⟨i1,q1,l1,hi1,hc1,rfl,h1⟩:=h0
 rw [show G.ty 28=some ⟨26,36,.struct [(0,26),(19,5),(20,5),(21,5),(22,5),(23,5),(24,5),(25,24)],[.u8 0,.u8 0,.u8 0,.u8 0,.bool false,.bool false,.bool false,.u8 0,.u8 0,.u8 0,.u8 0,.u8 0,.u8 0,.int .u32 0,.u8 0,.u8 0,.u8 0,.int .u16 0,.int .u16 0,.u8 0,.u8 0,.u8 0,.u8 0,.u8 0,.u8 0,.int .u16 0],[.u8,.u8,.u8,.u8,.bool,.bool,.bool,.u8,.u8,.u8,.u8,.u8,.u8,.int .u32,.u8,.u8,.u8,.int .u16,.int .u16,.u8,.u8,.u8,.u8,.u8,.u8,.int .u16],[.u8,.u8,.u8,.u8,.bool,.bool,.bool,.u8,.u8,.u8,.u8,.u8,.u8,.int .u32,.u8,.u8,.u8,.int .u16,.int .u16,.u8,.u8,.u8,.u8,.u8,.u8,.int .u16]⟩ from by kernel_rfl] at hi1
 cases hi1
 have sv2:=Conf.struct (i:=⟨26,36,.struct [(0,26),(19,5),(20,5),(21,5),(22,5),(23,5),(24,5),(25,24)],[.u8 0,.u8 0,.u8 0,.u8 0,.bool false,.bool false,.bool false,.u8 0,.u8 0,.u8 0,.u8 0,.u8 0,.u8 0,.int .u32 0,.u8 0,.u8 0,.u8 0,.int .u16 0,.int .u16 0,.u8 0,.u8 0,.u8 0,.u8 0,.u8 0,.u8 0,.int .u16 0],[.u8,.u8,.u8,.u8,.bool,.bool,.bool,.u8,.u8,.u8,.u8,.u8,.u8,.int .u32,.u8,.u8,.u8,.int .u16,.int .u16,.u8,.u8,.u8,.u8,.u8,.u8,.int .u16],[.u8,.u8,.u8,.u8,.bool,.bool,.bool,.u8,.u8,.u8,.u8,.u8,.u8,.int .u32,.u8,.u8,.u8,.int .u16,.int .u16,.u8,.u8,.u8,.u8,.u8,.u8,.int .u16]⟩) (by kernel_rfl) rfl hc1
 obtain ⟨av2_0,bv2_0,rfl,cv2_0,rv2_0⟩:=sv2
 have sv3:=Conf.struct (i:=⟨19,28,.struct [(0,5),(1,5),(2,5),(3,5),(4,4),(5,4),(6,4),(7,5),(8,5),(9,5),(10,5),(11,5),(12,5),(13,23),(14,5),(15,5),(16,5),(17,24),(18,24)],[.u8 0,.u8 0,.u8 0,.u8 0,.bool false,.bool false,.bool false,.u8 0,.u8 0,.u8 0,.u8 0,.u8 0,.u8 0,.int .u32 0,.u8 0,.u8 0,.u8 0,.int .u16 0,.int .u16 0],[.u8,.u8,.u8,.u8,.bool,.bool,.bool,.u8,.u8,.u8,.u8,.u8,.u8,.int .u32,.u8,.u8,.u8,.int .u16,.int .u16],[.u8,.u8,.u8,.u8,.bool,.bool,.bool,.u8,.u8,.u8,.u8,.u8,.u8,.int .u32,.u8,.u8,.u8,.int .u16,.int .u16]⟩) (by kernel_rfl) rfl cv2_0
 obtain ⟨av3_0,bv3_0,rfl,cv3_0,rv3_0⟩:=sv3
 obtain ⟨v4,rfl⟩:=Conf.u8 (i:=⟨1,1,.u8,[.u8 0],[.u8],[.u8]⟩) (by kernel_rfl) rfl cv3_0
 obtain ⟨av3_1,bv3_1,rfl,cv3_1,rv3_1⟩:=rv3_0
 obtain ⟨v5,rfl⟩:=Conf.u8 (i:=⟨1,1,.u8,[.u8 0],[.u8],[.u8]⟩) (by kernel_rfl) rfl cv3_1
 obtain ⟨av3_2,bv3_2,rfl,cv3_2,rv3_2⟩:=rv3_1
 obtain ⟨v6,rfl⟩:=Conf.u8 (i:=⟨1,1,.u8,[.u8 0],[.u8],[.u8]⟩) (by kernel_rfl) rfl cv3_2
 obtain ⟨av3_3,bv3_3,rfl,cv3_3,rv3_3⟩:=rv3_2
 obtain ⟨v7,rfl⟩:=Conf.u8 (i:=⟨1,1,.u8,[.u8 0],[.u8],[.u8]⟩) (by kernel_rfl) rfl cv3_3
 obtain ⟨av3_4,bv3_4,rfl,cv3_4,rv3_4⟩:=rv3_3
 obtain ⟨v8,rfl⟩:=Conf.bool (i:=⟨1,1,.bool,[.bool false],[.bool],[.bool]⟩) (by kernel_rfl) rfl cv3_4
 obtain ⟨av3_5,bv3_5,rfl,cv3_5,rv3_5⟩:=rv3_4
 obtain ⟨v9,rfl⟩:=Conf.bool (i:=⟨1,1,.bool,[.bool false],[.bool],[.bool]⟩) (by kernel_rfl) rfl cv3_5
 obtain ⟨av3_6,bv3_6,rfl,cv3_6,rv3_6⟩:=rv3_5
 obtain ⟨v10,rfl⟩:=Conf.bool (i:=⟨1,1,.bool,[.bool false],[.bool],[.bool]⟩) (by kernel_rfl) rfl cv3_6
 obtain ⟨av3_7,bv3_7,rfl,cv3_7,rv3_7⟩:=rv3_6
 obtain ⟨v11,rfl⟩:=Conf.u8 (i:=⟨1,1,.u8,[.u8 0],[.u8],[.u8]⟩) (by kernel_rfl) rfl cv3_7
 obtain ⟨av3_8,bv3_8,rfl,cv3_8,rv3_8⟩:=rv3_7
 obtain ⟨v12,rfl⟩:=Conf.u8 (i:=⟨1,1,.u8,[.u8 0],[.u8],[.u8]⟩) (by kernel_rfl) rfl cv3_8
 obtain ⟨av3_9,bv3_9,rfl,cv3_9,rv3_9⟩:=rv3_8
 obtain ⟨v13,rfl⟩:=Conf.u8 (i:=⟨1,1,.u8,[.u8 0],[.u8],[.u8]⟩) (by kernel_rfl) rfl cv3_9
 obtain ⟨av3_10,bv3_10,rfl,cv3_10,rv3_10⟩:=rv3_9
 obtain ⟨v14,rfl⟩:=Conf.u8 (i:=⟨1,1,.u8,[.u8 0],[.u8],[.u8]⟩) (by kernel_rfl) rfl cv3_10
 obtain ⟨av3_11,bv3_11,rfl,cv3_11,rv3_11⟩:=rv3_10
 obtain ⟨v15,rfl⟩:=Conf.u8 (i:=⟨1,1,.u8,[.u8 0],[.u8],[.u8]⟩) (by kernel_rfl) rfl cv3_11
 obtain ⟨av3_12,bv3_12,rfl,cv3_12,rv3_12⟩:=rv3_11
 obtain ⟨v16,rfl⟩:=Conf.u8 (i:=⟨1,1,.u8,[.u8 0],[.u8],[.u8]⟩) (by kernel_rfl) rfl cv3_12
 obtain ⟨av3_13,bv3_13,rfl,cv3_13,rv3_13⟩:=rv3_12
 obtain ⟨v17,rfl,wv17⟩:=Conf.int (i:=⟨1,4,.int .u32,[.int .u32 0],[.int .u32],[.int .u32]⟩) (by kernel_rfl) rfl cv3_13
 obtain ⟨av3_14,bv3_14,rfl,cv3_14,rv3_14⟩:=rv3_13
 obtain ⟨v18,rfl⟩:=Conf.u8 (i:=⟨1,1,.u8,[.u8 0],[.u8],[.u8]⟩) (by kernel_rfl) rfl cv3_14
 obtain ⟨av3_15,bv3_15,rfl,cv3_15,rv3_15⟩:=rv3_14
 obtain ⟨v19,rfl⟩:=Conf.u8 (i:=⟨1,1,.u8,[.u8 0],[.u8],[.u8]⟩) (by kernel_rfl) rfl cv3_15
 obtain ⟨av3_16,bv3_16,rfl,cv3_16,rv3_16⟩:=rv3_15
 obtain ⟨v20,rfl⟩:=Conf.u8 (i:=⟨1,1,.u8,[.u8 0],[.u8],[.u8]⟩) (by kernel_rfl) rfl cv3_16
 obtain ⟨av3_17,bv3_17,rfl,cv3_17,rv3_17⟩:=rv3_16
 obtain ⟨v21,rfl,wv21⟩:=Conf.int (i:=⟨1,2,.int .u16,[.int .u16 0],[.int .u16],[.int .u16]⟩) (by kernel_rfl) rfl cv3_17
 obtain ⟨av3_18,bv3_18,rfl,cv3_18,rv3_18⟩:=rv3_17
 obtain ⟨v22,rfl,wv22⟩:=Conf.int (i:=⟨1,2,.int .u16,[.int .u16 0],[.int .u16],[.int .u16]⟩) (by kernel_rfl) rfl cv3_18
 obtain rfl:=rv3_18
 obtain ⟨av2_1,bv2_1,rfl,cv2_1,rv2_1⟩:=rv2_0
 obtain ⟨v23,rfl⟩:=Conf.u8 (i:=⟨1,1,.u8,[.u8 0],[.u8],[.u8]⟩) (by kernel_rfl) rfl cv2_1
 obtain ⟨av2_2,bv2_2,rfl,cv2_2,rv2_2⟩:=rv2_1
 obtain ⟨v24,rfl⟩:=Conf.u8 (i:=⟨1,1,.u8,[.u8 0],[.u8],[.u8]⟩) (by kernel_rfl) rfl cv2_2
 obtain ⟨av2_3,bv2_3,rfl,cv2_3,rv2_3⟩:=rv2_2
 obtain ⟨v25,rfl⟩:=Conf.u8 (i:=⟨1,1,.u8,[.u8 0],[.u8],[.u8]⟩) (by kernel_rfl) rfl cv2_3
 obtain ⟨av2_4,bv2_4,rfl,cv2_4,rv2_4⟩:=rv2_3
 obtain ⟨v26,rfl⟩:=Conf.u8 (i:=⟨1,1,.u8,[.u8 0],[.u8],[.u8]⟩) (by kernel_rfl) rfl cv2_4
 obtain ⟨av2_5,bv2_5,rfl,cv2_5,rv2_5⟩:=rv2_4
 obtain ⟨v27,rfl⟩:=Conf.u8 (i:=⟨1,1,.u8,[.u8 0],[.u8],[.u8]⟩) (by kernel_rfl) rfl cv2_5
 obtain ⟨av2_6,bv2_6,rfl,cv2_6,rv2_6⟩:=rv2_5
 obtain ⟨v28,rfl⟩:=Conf.u8 (i:=⟨1,1,.u8,[.u8 0],[.u8],[.u8]⟩) (by kernel_rfl) rfl cv2_6
 obtain ⟨av2_7,bv2_7,rfl,cv2_7,rv2_7⟩:=rv2_6
 obtain ⟨v29,rfl,wv29⟩:=Conf.int (i:=⟨1,2,.int .u16,[.int .u16 0],[.int .u16],[.int .u16]⟩) (by kernel_rfl) rfl cv2_7
 obtain rfl:=rv2_7
 obtain ⟨i2,q2,l2,hi2,hc2,rfl,h2⟩:=h1
 rw [show G.ty 5=some ⟨1,1,.u8,[.u8 0],[.u8],[.u8]⟩ from by kernel_rfl] at hi2
 cases hi2
 obtain ⟨v30,rfl⟩:=Conf.u8 (i:=⟨1,1,.u8,[.u8 0],[.u8],[.u8]⟩) (by kernel_rfl) rfl hc2
 obtain ⟨i3,q3,l3,hi3,hc3,rfl,h3⟩:=h2
 rw [show G.ty 5=some ⟨1,1,.u8,[.u8 0],[.u8],[.u8]⟩ from by kernel_rfl] at hi3
 cases hi3
 obtain ⟨v31,rfl⟩:=Conf.u8 (i:=⟨1,1,.u8,[.u8 0],[.u8],[.u8]⟩) (by kernel_rfl) rfl hc3
 obtain rfl:=h3
 show callOf G.tab 17 3 [.bs v1,.agg [.u8 v4,.u8 v5,.u8 v6,.u8 v7,.bool v8,.bool v9,.bool v10,.u8 v11,.u8 v12,.u8 v13,.u8 v14,.u8 v15,.u8 v16,.int .u32 v17,.u8 v18,.u8 v19,.u8 v20,.int .u16 v21,.int .u16 v22,.u8 v23,.u8 v24,.u8 v25,.u8 v26,.u8 v27,.u8 v28,.int .u16 v29],.u8 v30,.u8 v31] []=some (.bool true,[])
 have gv17:0≤v17∧v17≤4294967295:=by
  simpa [Lit.wf,IntKind.min,IntKind.max,IntKind.signed,IntKind.bits] using wv17
 have gv21:0≤v21∧v21≤65535:=by
  simpa [Lit.wf,IntKind.min,IntKind.max,IntKind.signed,IntKind.bits] using wv21
 have gv22:0≤v22∧v22≤65535:=by
  simpa [Lit.wf,IntKind.min,IntKind.max,IntKind.signed,IntKind.bits] using wv22
 have gv29:0≤v29∧v29≤65535:=by
  simpa [Lit.wf,IntKind.min,IntKind.max,IntKind.signed,IntKind.bits] using wv29
 refine Eq.trans (b:=chk (decide (0≤v17)&&decide (v17≤4294967295)&&decide (0≤v21)&&decide (v21≤65535)&&decide (0≤v22)&&decide (v22≤65535)&&decide (0≤v29)&&decide (v29≤65535)) (some (.bool true,[]))) (by kernel_rfl) ?_
 have gv1:v1.length≤9223372036854775807:=wv1
 rw [chk_of (by simp only [Bool.and_eq_true,decide_eq_true_eq,true_and,and_true];omega)]
theorem glob (W:World) (call:CallT) (h:laidMetH Tryz.prog Rows.grantOnceRow.laid W):GlobOK ⟨G.ty,fun _=>[],G.own,call,G.glob,[],0,fun _=>none⟩ W (pfull W):=by
 intro q cs hq
 rw [MakeChecks.laidMetH_plain _ _ _ (by kernel_rfl)] at h
 have hq':look q globT=some cs:=hq
 simp only [globT,look] at hq'
 cases hb:Nat.beq 0 q with
 | false=>rw [hb] at hq';cases hq'
 | true =>
  rw [hb] at hq'
  have:=Nat.eq_of_beq_eq_true hb
  subst this
  cases hq'
  exact glob_texts (P := Tryz.prog) (n := "kerbsuite/kdcmessage.texts") (t := 207) (e := 9) (m := 10) (ss := [[99, 108, 105, 101, 110, 116, 32, 101, 120, 112, 105, 114, 101, 100], [115, 101, 114, 118, 105, 99, 101, 32, 101, 120, 112, 105, 114, 101, 100], [110, 111, 32, 108, 105, 102, 101, 116, 105, 109, 101, 32, 108, 101, 102, 116], [112, 114, 111, 116, 111, 99, 111, 108, 32, 118, 101, 114, 115, 105, 111, 110], [110, 111, 116, 32, 97, 32, 99, 108, 105, 101, 110, 116], [110, 111, 116, 32, 97, 32, 115, 101, 114, 118, 105, 99, 101], [98, 121, 116, 101, 32, 111, 114, 100, 101, 114], [112, 114, 105, 110, 99, 105, 112, 97, 108, 32, 117, 110, 107, 110, 111, 119, 110], [112, 114, 105, 110, 99, 105, 112, 97, 108, 32, 110, 111, 116, 32, 117, 110, 105, 113, 117, 101], [110, 111, 32, 107, 101, 121]]) (by kernel_rfl) (by kernel_rfl) Tryz.underlying207 Tryz.underlying9 (by kernel_rfl) h
set_option maxRecDepth 100000 in
theorem lifted (os:Os) (started:os.Started) (H:Type) (enc:TypeId×Value→H) :
  ReturnsInHanded {} Tryz.checked os 3 .any (fun w args=>(Rows.grantOnceSpec.pre enc Tryz.prog Tryz.f3 [] false w args∧laidMetH Tryz.prog Rows.grantOnceRow.laid w)∧sizedMet enc Tryz.prog Tryz.f3 (OpenSpec.ofChange Rows.grantOnceSpec) false w args)
   (Rows.grantOnceSpec.post enc Tryz.prog Tryz.f3 false true false false):=by
 refine returnsInHanded_of_change_and (C:=Tryz.checked) (X:=fun w _=>laidMetH Tryz.prog Rows.grantOnceRow.laid w) (fun _ _ _ hh h=>h.of_heap hh) own started (by kernel_rfl) Tryz.func3
  (ChangeSpec.witness_shaped (enc:=enc) (C:=Tryz.checked) (os:=os) (X:=fun w _=>laidMetH Tryz.prog Rows.grantOnceRow.laid w) false (World.laidAll Tryz.prog os Rows.grantOnceRow.laid) #[.slice none 0 0,.agg #[.int .u8 0,.int .u8 0,.int .u8 0,.int .u8 0,.bool false,.bool false,.bool false,.int .u8 0,.int .u8 0,.int .u8 0,.int .u8 0,.int .u8 0,.int .u8 0,.int .u32 0,.int .u8 0,.int .u8 0,.int .u8 0,.int .u16 0,.int .u16 0,.int .u8 0,.int .u8 0,.int .u8 0,.int .u8 0,.int .u8 0,.int .u8 0,.int .u16 0],.int .u8 0,.int .u8 0] 8 (World.laidAll_os _ _ _)
   (World.shaped_of_ZipB (by kernel_rfl) (by kernel_rfl)) (by kernel_rfl) (by kernel_rfl) (by kernel_rfl)
   (by rw [MakeChecks.laidMetH_plain _ _ _ (by kernel_rfl)];exact laidMet_laidAll _ (by kernel_rfl) (by kernel_rfl))) ?_
 intro W base args ds gs before hval hW hconds _ hX hholds
 exact law_contract_at (C:=Tryz.checked) (G:=G) (k:=17) (rt:=4) tab laidOut Tryz.func3 (by decide +kernel) (by kernel_rfl) (by kernel_rfl) Tryz.underlying4 (by kernel_rfl)
  (by
   have hall:(Tryz.f3.params.toList.all fun t=>covers G.ty 20 t&&Tryz.prog.readableRec t&&decide (t<Tryz.prog.types.size))=true:=by kernel_rfl
   intro t ht
   have:=List.all_eq_true.1 hall t ht
   simp only [Bool.and_eq_true,decide_eq_true_eq] at this
   exact ⟨this.1.1,this.1.2,this.2⟩) rfl
  (by
   intro H ds hds
   have hlen:Tryz.f3.params.toList.length=ds.length:=hds.symm
   have h3:ds.length=4:=hds.trans (by kernel_rfl)
   exact (match ds,h3 with | [d0,d1,d2,d3],_=>rfl)) law W base args ds gs before (glob W _ hX) hval hW hconds hholds
theorem and_t {a b:Bool} (h:a=true) (g:b=true):(a&&b)=true:=by rw [h,g];rfl
theorem j0:(Rows.grantOnceRow.wf (OpenSpec.ofChange Rows.grantOnceSpec)&&laidOutB Tryz.prog&&mapsRowed Tryz.prog&&Tryz.f3.params.all (Tryz.prog.readableRec ·)&&namedTie Tryz.prog Rows.grantOnceRow.named Rows.grantOnceSpec.vars&&(Rows.grantOnceRow.stops==[])&&(Tryz.prog.stops==[])&&(Rows.grantOnceRow.knobs==[])&&(Tryz.prog.stopKnobs==[]))=true:=by kernel_rfl
theorem j9:(Rows.grantOnceRow.inPlace==Tryz.prog.inPlace 3)=true:=by kernel_rfl
theorem j10:(Rows.grantOnceRow.unfollowed==Tryz.prog.unfollowed 3)=true:=by kernel_rfl
theorem j11:(Rows.grantOnceRow.recurses==Tryz.prog.recurses 3)=true:=by kernel_rfl
theorem j12:(Rows.grantOnceRow.named==Tryz.prog.varsNamed 3)=true:=by kernel_rfl
theorem j24:(Tryz.prog.stopsHeard)=true:=by kernel_rfl
theorem j25:(Tryz.prog.mayEnter)=true:=by kernel_rfl
theorem j26:(Rows.grantOnceRow.lifted==Tryz.prog.liftsFinal)=true:=by kernel_rfl
theorem joined:joinedFacts Tryz.prog 3 Tryz.f3 Rows.grantOnceSpec Rows.grantOnceRow=true:=by
 unfold joinedFacts
 exact (and_t (and_t (and_t (and_t (and_t (and_t (and_t (and_t (and_t (and_t (and_t (and_t (and_t (and_t (and_t (and_t (and_t (and_t (and_t (and_t (and_t (and_t (and_t j0 j9) j10) j11) j12) (by kernel_rfl)) (by kernel_rfl)) (by kernel_rfl)) (by kernel_rfl)) (by kernel_rfl)) (by kernel_rfl)) (by kernel_rfl)) (by kernel_rfl)) (by kernel_rfl)) (by kernel_rfl)) (by kernel_rfl)) j24) j25) j26) (by kernel_rfl)) (by kernel_rfl)) (by kernel_rfl)) (by kernel_rfl)) (by kernel_rfl))
theorem over:Rows.grantOnceRow.holds Tryz.pinned (OpenSpec.ofChange Rows.grantOnceSpec) :=
 OpenClaim.holds_of_wide 3 Tryz.f3 rfl rfl rfl rfl rfl rfl rfl ⟨rfl,rfl,rfl,rfl,rfl⟩ rfl rfl rfl rfl rfl (by kernel_rfl) Tryz.func3 joined
  (of_decide_eq_true (by kernel_rfl)) (by unfold Func.isWrapper;first | (rw [if_pos (by decide +kernel)];kernel_rfl) | (rw [if_neg (by decide +kernel)];exact ⟨rfl,rfl⟩))
  (fun os started H enc _=>lifted os started H enc)
theorem proved:Rows.GrantOnceCardSaid :=
 Claim7.holds_tied_plain_at .later [] [.data] true (true, "e44a81f07bd875b734d16c29e28cd00ac60132aeaf492d5e899cd7882c9c9f1e") false over (fun _ h => by cases h) (by kernel_rfl) (fun _ h => by cases h) grantOnce_row_tie rfl ⟨rfl, rfl⟩ (by kernel_rfl) rfl
  (fun f fn hf hfn=>by
   obtain rfl : f = 3 := Option.some.inj ((show Tryz.prog.funcNamed "kerbsuite/kerbsuitelaw19.GrantOnce" = some 3 by kernel_rfl).symm.trans hf) |>.symm
   obtain rfl:fn=Tryz.f3:=(Option.some.inj (Tryz.func3.symm.trans hfn)).symm
   exact ⟨by kernel_rfl,fun j t ht=>by
    have hm:t∈Tryz.f3.params.toList:=by simpa using Array.mem_of_getElem? ht
    have hall:(Tryz.f3.params.toList.all fun u => !Tryz.prog.wantsStandIn u)=true:=by kernel_rfl
    exact (show Tryz.prog.wantsStandIn t=false by simpa using List.all_eq_true.1 hall t hm)⟩)
  (by kernel_rfl)
end Go.Proofs.YtmpklfnpjhdjeaaGreatDoor.grantOnce
namespace Go.Proofs.YtmpklfnpjhdjeaaGreatDoor
/-- The statement. -/
theorem grantOnce_holds:Rows.GrantOnceCardSaid:=grantOnce.proved
end Go.Proofs.YtmpklfnpjhdjeaaGreatDoor
