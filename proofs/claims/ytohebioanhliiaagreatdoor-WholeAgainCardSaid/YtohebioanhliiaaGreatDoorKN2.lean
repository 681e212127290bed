/- Closed facts of WholeAgain's row. -/
import Derived.Test.YtohebioanhliiaaGreatDoorKZ2
set_option maxRecDepth 100000
namespace Go.Proofs.YtohebioanhliiaaGreatDoor.wholeAgain.Eo
open Go Go.Proofs.YtohebioanhliiaaGreatDoor.aD
theorem an{a b:Bool}(ha:a=true)(hb:b=true):(a&&b)=true:=by rw[ha,hb];rfl
theorem j1:Rows.wholeAgainRow.wf (OpenSpec.ofChange Rows.wholeAgainSpec)=true:=by kernel_rfl
theorem j3:mapsRowed Tryz.prog=true:=by kernel_rfl
theorem j5:namedTie Tryz.prog Rows.wholeAgainRow.named Rows.wholeAgainSpec.vars=true:=by kernel_rfl
theorem j8:(Rows.wholeAgainRow.inPlace==Tryz.prog.inPlace 6)=true:=by kernel_rfl
theorem j9:(Rows.wholeAgainRow.unfollowed==Tryz.prog.unfollowed 6)=true:=by kernel_rfl
theorem j10:(Rows.wholeAgainRow.recurses==Tryz.prog.recurses 6)=true:=by kernel_rfl
theorem j11:(Rows.wholeAgainRow.named==Tryz.prog.varsNamed 6)=true:=by kernel_rfl
theorem j12:(Rows.wholeAgainRow.lifted==Tryz.prog.liftsFinal)=true:=by kernel_rfl
theorem j13:(Rows.wholeAgainRow.pinned==Rows.wholeAgainRow.pinnedBy)=true:=by kernel_rfl
theorem j16:(Rows.wholeAgainRow.plainKeys==Tryz.prog.plainKeys)=true:=by kernel_rfl
theorem j17:(Tryz.prog.make==some Rows.wholeAgainRow.make)=true:=by kernel_rfl
theorem WT:joinedFacts Tryz.pinned.checked.prog 6 Tryz.f6 Rows.wholeAgainSpec Rows.wholeAgainRow=true:=by
 unfold joinedFacts;exact an (an (an (an (an (an (an (an (an (an (an (an (an (an (an (an (an (an (an (an (an (an (an (an (an (an (an (an (an (an (an j1 Ep) j3) (by kernel_rfl)) j5) (by kernel_rfl)) (by kernel_rfl)) (by kernel_rfl)) (by kernel_rfl)) j8) j9) j10) j11) (by kernel_rfl)) (by kernel_rfl)) (by kernel_rfl)) (by kernel_rfl)) (by kernel_rfl)) (by kernel_rfl)) (by kernel_rfl)) (by kernel_rfl)) (by kernel_rfl)) j16) (by kernel_rfl)) (by kernel_rfl)) (by kernel_rfl)) j12) j17) (by kernel_rfl)) j13) (by kernel_rfl)) (by kernel_rfl)
theorem named:Tryz.pinned.checked.prog.funcNamed Rows.wholeAgainRow.func=some 6:=by kernel_rfl
theorem inst:Tryz.f6.isInstance Tryz.prog Rows.wholeAgainRow.origin Rows.wholeAgainRow.targs:=of_decide_eq_true (by kernel_rfl)
theorem wrap:Tryz.f6.isWrapper Tryz.prog Rows.wholeAgainRow.wrapper Rows.wholeAgainRow.mainSum:=by unfold Func.isWrapper;first|(rw[if_pos (by decide +kernel)];kernel_rfl)|(rw[if_neg (by decide +kernel)];exact⟨rfl,rfl⟩)
end Go.Proofs.YtohebioanhliiaaGreatDoor.wholeAgain.Eo
