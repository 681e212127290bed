/- Closed facts of WholeSides's row. -/
import Derived.Test.YtohebioanhliiaaGreatDoorJZ2
set_option maxRecDepth 100000
namespace Go.Proofs.YtohebioanhliiaaGreatDoor.wholeSides.GM
open Go Go.Proofs.YtohebioanhliiaaGreatDoor.aF
theorem an{a b:Bool}(ha:a=true)(hb:b=true):(a&&b)=true:=by rw[ha,hb];rfl
theorem j1:Rows.wholeSidesRow.wf (OpenSpec.ofChange Rows.wholeSidesSpec)=true:=by kernel_rfl
theorem j3:mapsRowed Tryz.prog=true:=by kernel_rfl
theorem j5:namedTie Tryz.prog Rows.wholeSidesRow.named Rows.wholeSidesSpec.vars=true:=by kernel_rfl
theorem j8:(Rows.wholeSidesRow.inPlace==Tryz.prog.inPlace 7)=true:=by kernel_rfl
theorem j9:(Rows.wholeSidesRow.unfollowed==Tryz.prog.unfollowed 7)=true:=by kernel_rfl
theorem j10:(Rows.wholeSidesRow.recurses==Tryz.prog.recurses 7)=true:=by kernel_rfl
theorem j11:(Rows.wholeSidesRow.named==Tryz.prog.varsNamed 7)=true:=by kernel_rfl
theorem j12:(Rows.wholeSidesRow.lifted==Tryz.prog.liftsFinal)=true:=by kernel_rfl
theorem j13:(Rows.wholeSidesRow.pinned==Rows.wholeSidesRow.pinnedBy)=true:=by kernel_rfl
theorem j16:(Rows.wholeSidesRow.plainKeys==Tryz.prog.plainKeys)=true:=by kernel_rfl
theorem j17:(Tryz.prog.make==some Rows.wholeSidesRow.make)=true:=by kernel_rfl
theorem aac:joinedFacts Tryz.pinned.checked.prog 7 Tryz.f7 Rows.wholeSidesSpec Rows.wholeSidesRow=true:=by
 unfold joinedFacts;exact an (an (an (an (an (an (an (an (an (an (an (an (an (an (an (an (an (an (an (an (an (an (an (an (an (an (an (an (an (an (an j1 GN) j3) (by kernel_rfl)) j5) (by kernel_rfl)) (by kernel_rfl)) (by kernel_rfl)) (by kernel_rfl)) j8) j9) j10) j11) (by kernel_rfl)) (by kernel_rfl)) (by kernel_rfl)) (by kernel_rfl)) (by kernel_rfl)) (by kernel_rfl)) (by kernel_rfl)) (by kernel_rfl)) (by kernel_rfl)) j16) (by kernel_rfl)) (by kernel_rfl)) (by kernel_rfl)) j12) j17) (by kernel_rfl)) j13) (by kernel_rfl)) (by kernel_rfl)
theorem named:Tryz.pinned.checked.prog.funcNamed Rows.wholeSidesRow.func=some 7:=by kernel_rfl
theorem inst:Tryz.f7.isInstance Tryz.prog Rows.wholeSidesRow.origin Rows.wholeSidesRow.targs:=of_decide_eq_true (by kernel_rfl)
theorem wrap:Tryz.f7.isWrapper Tryz.prog Rows.wholeSidesRow.wrapper Rows.wholeSidesRow.mainSum:=by unfold Func.isWrapper;first|(rw[if_pos (by decide +kernel)];kernel_rfl)|(rw[if_neg (by decide +kernel)];exact⟨rfl,rfl⟩)
end Go.Proofs.YtohebioanhliiaaGreatDoor.wholeSides.GM
