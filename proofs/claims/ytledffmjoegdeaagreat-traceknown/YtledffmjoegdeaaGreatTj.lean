/- Facts of the row. -/
import Derived.Test.YtledffmjoegdeaaGreatTab
import Derived.Test.YtledffmjoegdeaaGreatRows
set_option linter.all false
namespace Go.Proofs.YtledffmjoegdeaaGreat.traceKnown
open Go Go.Abs Go.Proofs
open Go.ChangeShapes Go.WideShapes Go.ChangeAt Go.RowKit
theorem kY{a b:Bool}(h:a=true)(g:b=true):(a&&b)=true:=by rw[h,g];rfl
theorem j0:(Rows.traceKnownRow.wf (OpenSpec.ofChange Rows.traceKnownSpec)&&laidOutB Tryz.prog&&mapsRowed Tryz.prog&&Tryz.f5.params.all (Tryz.prog.readableRec ·)&&namedTie Tryz.prog Rows.traceKnownRow.named Rows.traceKnownSpec.vars&&(Rows.traceKnownRow.stops==[])&&(Tryz.prog.stops==[])&&(Rows.traceKnownRow.knobs==[])&&(Tryz.prog.stopKnobs==[]))=true:=by kernel_rfl
theorem j9:(Rows.traceKnownRow.inPlace==Tryz.prog.inPlace 5)=true:=by kernel_rfl
theorem j10:(Rows.traceKnownRow.unfollowed==Tryz.prog.unfollowed 5)=true:=by kernel_rfl
theorem j11:(Rows.traceKnownRow.recurses==Tryz.prog.recurses 5)=true:=by kernel_rfl
theorem j12:(Rows.traceKnownRow.named==Tryz.prog.varsNamed 5)=true:=by kernel_rfl
theorem j24:(Tryz.prog.stopsHeard)=true:=by kernel_rfl
theorem j25:(Tryz.prog.mayEnter)=true:=by kernel_rfl
theorem j26:(Rows.traceKnownRow.lifted==Tryz.prog.liftsFinal)=true:=by kernel_rfl
theorem abQ:joinedFacts Tryz.prog 5 Tryz.f5 Rows.traceKnownSpec Rows.traceKnownRow=true:=by
 unfold joinedFacts;exact(kY (kY (kY (kY (kY (kY (kY (kY (kY (kY (kY (kY (kY (kY (kY (kY (kY (kY (kY (kY (kY (kY (kY j0 j9) j10) j11) j12) (by kernel_rfl)) (by kernel_rfl)) (by kernel_rfl)) (by kernel_rfl)) (by kernel_rfl)) (by kernel_rfl)) (by kernel_rfl)) (by kernel_rfl)) (by kernel_rfl)) (by kernel_rfl)) (by kernel_rfl)) j24) j25) j26) (by kernel_rfl)) (by kernel_rfl)) (by kernel_rfl)) (by kernel_rfl)) (by kernel_rfl))
end Go.Proofs.YtledffmjoegdeaaGreat.traceKnown
