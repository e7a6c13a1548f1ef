/- Facts of the row. -/
import Derived.Test.YtpelamlfpffacaaGreatTab
import Derived.Test.YtpelamlfpffacaaGreatRows
set_option linter.all false
namespace Go.Proofs.YtpelamlfpffacaaGreat.auditSeals
open Go Go.Abs Go.Proofs
open Go.ChangeShapes Go.WideShapes Go.ChangeAt Go.RowKit
theorem kP{a b:Bool}(h:a=true)(g:b=true):(a&&b)=true:=by rw[h,g];rfl
theorem j0:(Rows.auditSealsRow.wf (OpenSpec.ofChange Rows.auditSealsSpec)&&laidOutB Tryz.prog&&mapsRowed Tryz.prog&&Tryz.f4.params.all (Tryz.prog.readableRec ·)&&namedTie Tryz.prog Rows.auditSealsRow.named Rows.auditSealsSpec.vars&&(Rows.auditSealsRow.stops==[])&&(Tryz.prog.stops==[])&&(Rows.auditSealsRow.knobs==[])&&(Tryz.prog.stopKnobs==[]))=true:=by kernel_rfl
theorem j9:(Rows.auditSealsRow.inPlace==Tryz.prog.inPlace 4)=true:=by kernel_rfl
theorem j10:(Rows.auditSealsRow.unfollowed==Tryz.prog.unfollowed 4)=true:=by kernel_rfl
theorem j11:(Rows.auditSealsRow.recurses==Tryz.prog.recurses 4)=true:=by kernel_rfl
theorem j12:(Rows.auditSealsRow.named==Tryz.prog.varsNamed 4)=true:=by kernel_rfl
theorem j24:(Tryz.prog.stopsHeard)=true:=by kernel_rfl
theorem j25:(Tryz.prog.mayEnter)=true:=by kernel_rfl
theorem j26:(Rows.auditSealsRow.lifted==Tryz.prog.liftsFinal)=true:=by kernel_rfl
theorem XF:joinedFacts Tryz.prog 4 Tryz.f4 Rows.auditSealsSpec Rows.auditSealsRow=true:=by
 unfold joinedFacts;exact(kP (kP (kP (kP (kP (kP (kP (kP (kP (kP (kP (kP (kP (kP (kP (kP (kP (kP (kP (kP (kP (kP (kP j0 j9) j10) j11) j12) (by kernel_rfl)) (by kernel_rfl)) (by kernel_rfl)) (by kernel_rfl)) (by kernel_rfl)) (by kernel_rfl)) (by kernel_rfl)) (by kernel_rfl)) (by kernel_rfl)) (by kernel_rfl)) (by kernel_rfl)) j24) j25) j26) (by kernel_rfl)) (by kernel_rfl)) (by kernel_rfl)) (by kernel_rfl)) (by kernel_rfl))
end Go.Proofs.YtpelamlfpffacaaGreat.auditSeals
