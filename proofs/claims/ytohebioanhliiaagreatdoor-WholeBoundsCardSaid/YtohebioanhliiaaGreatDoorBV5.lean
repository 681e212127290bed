/- Closed facts of WholeBounds's row. -/
import Derived.Test.YtohebioanhliiaaGreatDoorBZ2
set_option maxRecDepth 100000
namespace Go.Proofs.YtohebioanhliiaaGreatDoor.wholeBounds.E9
open Go Go.Proofs.YtohebioanhliiaaGreatDoor.aw
theorem an{a b:Bool}(ha:a=true)(hb:b=true):(a&&b)=true:=by rw[ha,hb];rfl
theorem j1:Rows.wholeBoundsRow.wf (OpenSpec.ofChange Rows.wholeBoundsSpec)=true:=by kernel_rfl
theorem j3:mapsRowed Tryz.prog=true:=by kernel_rfl
theorem j5:namedTie Tryz.prog Rows.wholeBoundsRow.named Rows.wholeBoundsSpec.vars=true:=by kernel_rfl
theorem j8:(Rows.wholeBoundsRow.inPlace==Tryz.prog.inPlace 8)=true:=by kernel_rfl
theorem j9:(Rows.wholeBoundsRow.unfollowed==Tryz.prog.unfollowed 8)=true:=by kernel_rfl
theorem j10:(Rows.wholeBoundsRow.recurses==Tryz.prog.recurses 8)=true:=by kernel_rfl
theorem j11:(Rows.wholeBoundsRow.named==Tryz.prog.varsNamed 8)=true:=by kernel_rfl
theorem j12:(Rows.wholeBoundsRow.lifted==Tryz.prog.liftsFinal)=true:=by kernel_rfl
theorem j13:(Rows.wholeBoundsRow.pinned==Rows.wholeBoundsRow.pinnedBy)=true:=by kernel_rfl
theorem j16:(Rows.wholeBoundsRow.plainKeys==Tryz.prog.plainKeys)=true:=by kernel_rfl
theorem j17:(Tryz.prog.make==some Rows.wholeBoundsRow.make)=true:=by kernel_rfl
theorem X7:joinedFacts Tryz.pinned.checked.prog 8 Tryz.f8 Rows.wholeBoundsSpec Rows.wholeBoundsRow=true:=by
 unfold joinedFacts;exact an (an (an (an (an (an (an (an (an (an (an (an (an (an (an (an (an (an (an (an (an (an (an (an (an (an (an (an (an (an (an j1 Fa) j3) (by kernel_rfl)) j5) (by kernel_rfl)) (by kernel_rfl)) (by kernel_rfl)) (by kernel_rfl)) j8) j9) j10) j11) (by kernel_rfl)) (by kernel_rfl)) (by kernel_rfl)) (by kernel_rfl)) (by kernel_rfl)) (by kernel_rfl)) (by kernel_rfl)) (by kernel_rfl)) (by kernel_rfl)) j16) (by kernel_rfl)) (by kernel_rfl)) (by kernel_rfl)) j12) j17) (by kernel_rfl)) j13) (by kernel_rfl)) (by kernel_rfl)
theorem named:Tryz.pinned.checked.prog.funcNamed Rows.wholeBoundsRow.func=some 8:=by kernel_rfl
theorem inst:Tryz.f8.isInstance Tryz.prog Rows.wholeBoundsRow.origin Rows.wholeBoundsRow.targs:=of_decide_eq_true (by kernel_rfl)
theorem wrap:Tryz.f8.isWrapper Tryz.prog Rows.wholeBoundsRow.wrapper Rows.wholeBoundsRow.mainSum:=by unfold Func.isWrapper;first|(rw[if_pos (by decide +kernel)];kernel_rfl)|(rw[if_neg (by decide +kernel)];exact⟨rfl,rfl⟩)
end Go.Proofs.YtohebioanhliiaaGreatDoor.wholeBounds.E9
