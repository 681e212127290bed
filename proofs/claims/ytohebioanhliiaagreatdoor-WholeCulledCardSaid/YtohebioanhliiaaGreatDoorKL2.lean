/- Closed facts of WholeCulled's row. -/
import Derived.Test.YtohebioanhliiaaGreatDoorKZ2
set_option maxRecDepth 100000
namespace Go.Proofs.YtohebioanhliiaaGreatDoor.wholeCulled.Eo
open Go Go.Proofs.YtohebioanhliiaaGreatDoor.aD
theorem an{a b:Bool}(ha:a=true)(hb:b=true):(a&&b)=true:=by rw[ha,hb];rfl
theorem j1:Rows.wholeCulledRow.wf (OpenSpec.ofChange Rows.wholeCulledSpec)=true:=by kernel_rfl
theorem j3:mapsRowed Tryz.prog=true:=by kernel_rfl
theorem j5:namedTie Tryz.prog Rows.wholeCulledRow.named Rows.wholeCulledSpec.vars=true:=by kernel_rfl
theorem j8:(Rows.wholeCulledRow.inPlace==Tryz.prog.inPlace 4)=true:=by kernel_rfl
theorem j9:(Rows.wholeCulledRow.unfollowed==Tryz.prog.unfollowed 4)=true:=by kernel_rfl
theorem j10:(Rows.wholeCulledRow.recurses==Tryz.prog.recurses 4)=true:=by kernel_rfl
theorem j11:(Rows.wholeCulledRow.named==Tryz.prog.varsNamed 4)=true:=by kernel_rfl
theorem j12:(Rows.wholeCulledRow.lifted==Tryz.prog.liftsFinal)=true:=by kernel_rfl
theorem j13:(Rows.wholeCulledRow.pinned==Rows.wholeCulledRow.pinnedBy)=true:=by kernel_rfl
theorem j16:(Rows.wholeCulledRow.plainKeys==Tryz.prog.plainKeys)=true:=by kernel_rfl
theorem j17:(Tryz.prog.make==some Rows.wholeCulledRow.make)=true:=by kernel_rfl
theorem WT:joinedFacts Tryz.pinned.checked.prog 4 Tryz.f4 Rows.wholeCulledSpec Rows.wholeCulledRow=true:=by
 unfold joinedFacts;exact an (an (an (an (an (an (an (an (an (an (an (an (an (an (an (an (an (an (an (an (an (an (an (an (an (an (an (an (an (an (an j1 Ep) j3) (by kernel_rfl)) j5) (by kernel_rfl)) (by kernel_rfl)) (by kernel_rfl)) (by kernel_rfl)) j8) j9) j10) j11) (by kernel_rfl)) (by kernel_rfl)) (by kernel_rfl)) (by kernel_rfl)) (by kernel_rfl)) (by kernel_rfl)) (by kernel_rfl)) (by kernel_rfl)) (by kernel_rfl)) j16) (by kernel_rfl)) (by kernel_rfl)) (by kernel_rfl)) j12) j17) (by kernel_rfl)) j13) (by kernel_rfl)) (by kernel_rfl)
theorem named:Tryz.pinned.checked.prog.funcNamed Rows.wholeCulledRow.func=some 4:=by kernel_rfl
theorem inst:Tryz.f4.isInstance Tryz.prog Rows.wholeCulledRow.origin Rows.wholeCulledRow.targs:=of_decide_eq_true (by kernel_rfl)
theorem wrap:Tryz.f4.isWrapper Tryz.prog Rows.wholeCulledRow.wrapper Rows.wholeCulledRow.mainSum:=by unfold Func.isWrapper;first|(rw[if_pos (by decide +kernel)];kernel_rfl)|(rw[if_neg (by decide +kernel)];exact⟨rfl,rfl⟩)
end Go.Proofs.YtohebioanhliiaaGreatDoor.wholeCulled.Eo
