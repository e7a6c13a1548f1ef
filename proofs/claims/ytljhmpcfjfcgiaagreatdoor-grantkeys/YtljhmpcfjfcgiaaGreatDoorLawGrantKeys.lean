/- Proved: the law 'GrantKeys' returns true for every input, and each argument reads afterwards as it read before. Its conditions are those of the given row alone. -/
import Derived.Test.YtljhmpcfjfcgiaaGreatDoorTop
import Derived.Test.YtljhmpcfjfcgiaaGreatDoorAbsGlob
import Derived.Test.YtljhmpcfjfcgiaaGreatDoorCards
import Derived.Test.YtljhmpcfjfcgiaaGreatDoorTie
import Derived.Lay
import Derived.SevenTiedAt
import Derived.Handed
namespace Go.Proofs.YtljhmpcfjfcgiaaGreatDoor.grantKeys
open Go Go.Abs Go.Proofs
open Go.ChangeShapes Go.WideShapes Go.ChangeAt Go.RowKit
set_option linter.unusedVariables false
theorem law (l:List AV) (h:ConfArgs G.ty Tryz.f3.params.toList l):callOf G.tab 17 3 l []=some (.bool true,[]):=by
 obtain ⟨i0,q0,l0,hi0,hc0,rfl,h0⟩:=h
 rw [show G.ty 22=some ⟨1,24,.slice 5 true,[.nils],[.bsl],[]⟩ from by kernel_rfl] at hi0
 cases hi0
 obtain ⟨v1,rfl,wv1⟩:=Conf.bs (i:=⟨1,24,.slice 5 true,[.nils],[.bsl],[]⟩) (by kernel_rfl) rfl hc0
 obtain ⟨i1,q1,l1,hi1,hc1,rfl,h1⟩:=h0
 rw [show G.ty 22=some ⟨1,24,.slice 5 true,[.nils],[.bsl],[]⟩ from by kernel_rfl] at hi1
 cases hi1
 obtain ⟨v2,rfl,wv2⟩:=Conf.bs (i:=⟨1,24,.slice 5 true,[.nils],[.bsl],[]⟩) (by kernel_rfl) rfl hc1
 obtain ⟨i2,q2,l2,hi2,hc2,rfl,h2⟩:=h1
 rw [show G.ty 5=some ⟨1,1,.u8,[.u8 0],[.u8],[.u8]⟩ from by kernel_rfl] at hi2
 cases hi2
 obtain ⟨v3,rfl⟩:=Conf.u8 (i:=⟨1,1,.u8,[.u8 0],[.u8],[.u8]⟩) (by kernel_rfl) rfl hc2
 obtain rfl:=h2
 show callOf G.tab 17 3 [.bs v1,.bs v2,.u8 v3] []=some (.bool true,[])
 kernel_rfl
theorem glob (W:World) (call:CallT) (h:laidMetH Tryz.prog Rows.grantKeysRow.laid W):GlobOK ⟨G.ty,fun _=>[],G.own,call,G.glob,[],0,fun _=>none⟩ W (pfull W):=by
 intro q cs hq
 rw [MakeChecks.laidMetH_plain _ _ _ (by kernel_rfl)] at h
 have hq':look q globT=some cs:=hq
 simp only [globT,look] at hq'
 cases hb:Nat.beq 0 q with
 | false=>rw [hb] at hq';cases hq'
 | true =>
  rw [hb] at hq'
  have:=Nat.eq_of_beq_eq_true hb
  subst this
  cases hq'
  exact glob_texts (P := Tryz.prog) (n := "kerbsuite/kdcmessage.texts") (t := 204) (e := 9) (m := 10) (ss := [[99, 108, 105, 101, 110, 116, 32, 101, 120, 112, 105, 114, 101, 100], [115, 101, 114, 118, 105, 99, 101, 32, 101, 120, 112, 105, 114, 101, 100], [110, 111, 32, 108, 105, 102, 101, 116, 105, 109, 101, 32, 108, 101, 102, 116], [112, 114, 111, 116, 111, 99, 111, 108, 32, 118, 101, 114, 115, 105, 111, 110], [110, 111, 116, 32, 97, 32, 99, 108, 105, 101, 110, 116], [110, 111, 116, 32, 97, 32, 115, 101, 114, 118, 105, 99, 101], [98, 121, 116, 101, 32, 111, 114, 100, 101, 114], [112, 114, 105, 110, 99, 105, 112, 97, 108, 32, 117, 110, 107, 110, 111, 119, 110], [112, 114, 105, 110, 99, 105, 112, 97, 108, 32, 110, 111, 116, 32, 117, 110, 105, 113, 117, 101], [110, 111, 32, 107, 101, 121]]) (by kernel_rfl) (by kernel_rfl) Tryz.underlying204 Tryz.underlying9 (by kernel_rfl) h
set_option maxRecDepth 100000 in
theorem lifted (os:Os) (started:os.Started) (H:Type) (enc:TypeId×Value→H) :
  ReturnsInHanded {} Tryz.checked os 3 .any (fun w args=>(Rows.grantKeysSpec.pre enc Tryz.prog Tryz.f3 [] false w args∧laidMetH Tryz.prog Rows.grantKeysRow.laid w)∧sizedMet enc Tryz.prog Tryz.f3 (OpenSpec.ofChange Rows.grantKeysSpec) false w args)
   (Rows.grantKeysSpec.post enc Tryz.prog Tryz.f3 false true false false):=by
 refine returnsInHanded_of_change_and (C:=Tryz.checked) (X:=fun w _=>laidMetH Tryz.prog Rows.grantKeysRow.laid w) (fun _ _ _ hh h=>h.of_heap hh) own started (by kernel_rfl) Tryz.func3
  (ChangeSpec.witness_shaped (enc:=enc) (C:=Tryz.checked) (os:=os) (X:=fun w _=>laidMetH Tryz.prog Rows.grantKeysRow.laid w) false (World.laidAll Tryz.prog os Rows.grantKeysRow.laid) #[.slice none 0 0,.slice none 0 0,.int .u8 0] 8 (World.laidAll_os _ _ _)
   (World.shaped_of_ZipB (by kernel_rfl) (by kernel_rfl)) (by kernel_rfl) (by kernel_rfl) (by kernel_rfl)
   (by rw [MakeChecks.laidMetH_plain _ _ _ (by kernel_rfl)];exact laidMet_laidAll _ (by kernel_rfl) (by kernel_rfl))) ?_
 intro W base args ds gs before hval hW hconds _ hX hholds
 exact law_contract_at (C:=Tryz.checked) (G:=G) (k:=17) (rt:=4) tab laidOut Tryz.func3 (by decide +kernel) (by kernel_rfl) (by kernel_rfl) Tryz.underlying4 (by kernel_rfl)
  (by
   have hall:(Tryz.f3.params.toList.all fun t=>covers G.ty 20 t&&Tryz.prog.readableRec t&&decide (t<Tryz.prog.types.size))=true:=by kernel_rfl
   intro t ht
   have:=List.all_eq_true.1 hall t ht
   simp only [Bool.and_eq_true,decide_eq_true_eq] at this
   exact ⟨this.1.1,this.1.2,this.2⟩) rfl
  (by
   intro H ds hds
   have hlen:Tryz.f3.params.toList.length=ds.length:=hds.symm
   have h3:ds.length=3:=hds.trans (by kernel_rfl)
   exact (match ds,h3 with | [d0,d1,d2],_=>rfl)) law W base args ds gs before (glob W _ hX) hval hW hconds hholds
theorem and_t {a b:Bool} (h:a=true) (g:b=true):(a&&b)=true:=by rw [h,g];rfl
theorem j0:(Rows.grantKeysRow.wf (OpenSpec.ofChange Rows.grantKeysSpec)&&laidOutB Tryz.prog&&mapsRowed Tryz.prog&&Tryz.f3.params.all (Tryz.prog.readableRec ·)&&namedTie Tryz.prog Rows.grantKeysRow.named Rows.grantKeysSpec.vars&&(Rows.grantKeysRow.stops==[])&&(Tryz.prog.stops==[])&&(Rows.grantKeysRow.knobs==[])&&(Tryz.prog.stopKnobs==[]))=true:=by kernel_rfl
theorem j9:(Rows.grantKeysRow.inPlace==Tryz.prog.inPlace 3)=true:=by kernel_rfl
theorem j10:(Rows.grantKeysRow.unfollowed==Tryz.prog.unfollowed 3)=true:=by kernel_rfl
theorem j11:(Rows.grantKeysRow.recurses==Tryz.prog.recurses 3)=true:=by kernel_rfl
theorem j12:(Rows.grantKeysRow.named==Tryz.prog.varsNamed 3)=true:=by kernel_rfl
theorem j24:(Tryz.prog.stopsHeard)=true:=by kernel_rfl
theorem j25:(Tryz.prog.mayEnter)=true:=by kernel_rfl
theorem j26:(Rows.grantKeysRow.lifted==Tryz.prog.liftsFinal)=true:=by kernel_rfl
theorem joined:joinedFacts Tryz.prog 3 Tryz.f3 Rows.grantKeysSpec Rows.grantKeysRow=true:=by
 unfold joinedFacts
 exact (and_t (and_t (and_t (and_t (and_t (and_t (and_t (and_t (and_t (and_t (and_t (and_t (and_t (and_t (and_t (and_t (and_t (and_t (and_t (and_t (and_t (and_t (and_t j0 j9) j10) j11) j12) (by kernel_rfl)) (by kernel_rfl)) (by kernel_rfl)) (by kernel_rfl)) (by kernel_rfl)) (by kernel_rfl)) (by kernel_rfl)) (by kernel_rfl)) (by kernel_rfl)) (by kernel_rfl)) (by kernel_rfl)) j24) j25) j26) (by kernel_rfl)) (by kernel_rfl)) (by kernel_rfl)) (by kernel_rfl)) (by kernel_rfl))
theorem over:Rows.grantKeysRow.holds Tryz.pinned (OpenSpec.ofChange Rows.grantKeysSpec) :=
 OpenClaim.holds_of_wide 3 Tryz.f3 rfl rfl rfl rfl rfl rfl rfl ⟨rfl,rfl,rfl,rfl,rfl⟩ rfl rfl rfl rfl rfl (by kernel_rfl) Tryz.func3 joined
  (of_decide_eq_true (by kernel_rfl)) (by unfold Func.isWrapper;first | (rw [if_pos (by decide +kernel)];kernel_rfl) | (rw [if_neg (by decide +kernel)];exact ⟨rfl,rfl⟩))
  (fun os started H enc _=>lifted os started H enc)
theorem proved:Rows.GrantKeysCardSaid :=
 Claim7.holds_tied_plain_at .later [] [.data] true (true, "f6f92fbd16a827cd71b1b85e93620f626c0a9a214331d9d3a275d7d1d08c283c") false over (fun _ h => by cases h) (by kernel_rfl) (fun _ h => by cases h) grantKeys_row_tie rfl ⟨rfl, rfl⟩ (by kernel_rfl) rfl
  (fun f fn hf hfn=>by
   obtain rfl : f = 3 := Option.some.inj ((show Tryz.prog.funcNamed "kerbsuite/kerbsuitelaw19.GrantKeys" = some 3 by kernel_rfl).symm.trans hf) |>.symm
   obtain rfl:fn=Tryz.f3:=(Option.some.inj (Tryz.func3.symm.trans hfn)).symm
   exact ⟨by kernel_rfl,fun j t ht=>by
    have hm:t∈Tryz.f3.params.toList:=by simpa using Array.mem_of_getElem? ht
    have hall:(Tryz.f3.params.toList.all fun u => !Tryz.prog.wantsStandIn u)=true:=by kernel_rfl
    exact (show Tryz.prog.wantsStandIn t=false by simpa using List.all_eq_true.1 hall t hm)⟩)
  (by kernel_rfl)
end Go.Proofs.YtljhmpcfjfcgiaaGreatDoor.grantKeys
namespace Go.Proofs.YtljhmpcfjfcgiaaGreatDoor
/-- The statement. -/
theorem grantKeys_holds:Rows.GrantKeysCardSaid:=grantKeys.proved
end Go.Proofs.YtljhmpcfjfcgiaaGreatDoor
