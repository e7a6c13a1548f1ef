/- Facts of the row. -/
import Derived.Test.YtpelamlfpffacaaGreatTab
import Derived.Test.YtpelamlfpffacaaGreatRows
set_option linter.all false
namespace Go.Proofs.YtpelamlfpffacaaGreat.auditTells
open Go Go.Abs Go.Proofs
open Go.ChangeShapes Go.WideShapes Go.ChangeAt Go.RowKit
theorem kY{a b:Bool}(h:a=true)(g:b=true):(a&&b)=true:=by rw[h,g];rfl
theorem j0:(Rows.auditTellsRow.wf (OpenSpec.ofChange Rows.auditTellsSpec)&&laidOutB Tryz.prog&&mapsRowed Tryz.prog&&Tryz.f3.params.all (Tryz.prog.readableRec ·)&&namedTie Tryz.prog Rows.auditTellsRow.named Rows.auditTellsSpec.vars&&(Rows.auditTellsRow.stops==[])&&(Tryz.prog.stops==[])&&(Rows.auditTellsRow.knobs==[])&&(Tryz.prog.stopKnobs==[]))=true:=by kernel_rfl
theorem j9:(Rows.auditTellsRow.inPlace==Tryz.prog.inPlace 3)=true:=by kernel_rfl
theorem j10:(Rows.auditTellsRow.unfollowed==Tryz.prog.unfollowed 3)=true:=by kernel_rfl
theorem j11:(Rows.auditTellsRow.recurses==Tryz.prog.recurses 3)=true:=by kernel_rfl
theorem j12:(Rows.auditTellsRow.named==Tryz.prog.varsNamed 3)=true:=by kernel_rfl
theorem j24:(Tryz.prog.stopsHeard)=true:=by kernel_rfl
theorem j25:(Tryz.prog.mayEnter)=true:=by kernel_rfl
theorem j26:(Rows.auditTellsRow.lifted==Tryz.prog.liftsFinal)=true:=by kernel_rfl
theorem abQ:joinedFacts Tryz.prog 3 Tryz.f3 Rows.auditTellsSpec Rows.auditTellsRow=true:=by
 unfold joinedFacts;exact(kY (kY (kY (kY (kY (kY (kY (kY (kY (kY (kY (kY (kY (kY (kY (kY (kY (kY (kY (kY (kY (kY (kY j0 j9) j10) j11) j12) (by kernel_rfl)) (by kernel_rfl)) (by kernel_rfl)) (by kernel_rfl)) (by kernel_rfl)) (by kernel_rfl)) (by kernel_rfl)) (by kernel_rfl)) (by kernel_rfl)) (by kernel_rfl)) (by kernel_rfl)) j24) j25) j26) (by kernel_rfl)) (by kernel_rfl)) (by kernel_rfl)) (by kernel_rfl)) (by kernel_rfl))
end Go.Proofs.YtpelamlfpffacaaGreat.auditTells
