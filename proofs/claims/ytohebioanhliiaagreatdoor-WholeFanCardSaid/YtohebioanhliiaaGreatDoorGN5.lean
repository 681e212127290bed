/- Closed facts of the row of WholeFan. -/
import Derived.Test.YtohebioanhliiaaGreatDoorGZ2
set_option maxRecDepth 100000
namespace Go.Proofs.YtohebioanhliiaaGreatDoor.wholeFan.Il
open Go Go.Proofs.YtohebioanhliiaaGreatDoor.av
theorem an{a b:Bool}(ha:a=true)(hb:b=true):(a&&b)=true:=by rw[ha,hb];rfl
theorem j1:Rows.wholeFanRow.wf (OpenSpec.ofChange Rows.wholeFanSpec)=true:=by kernel_rfl
theorem j3:mapsRowed Tryz.prog=true:=by kernel_rfl
theorem j5:namedTie Tryz.prog Rows.wholeFanRow.named Rows.wholeFanSpec.vars=true:=by kernel_rfl
theorem j8:(Rows.wholeFanRow.inPlace==Tryz.prog.inPlace 3)=true:=by kernel_rfl
theorem j9:(Rows.wholeFanRow.unfollowed==Tryz.prog.unfollowed 3)=true:=by kernel_rfl
theorem j10:(Rows.wholeFanRow.recurses==Tryz.prog.recurses 3)=true:=by kernel_rfl
theorem j11:(Rows.wholeFanRow.named==Tryz.prog.varsNamed 3)=true:=by kernel_rfl
theorem j12:(Rows.wholeFanRow.lifted==Tryz.prog.liftsFinal)=true:=by kernel_rfl
theorem j13:(Rows.wholeFanRow.pinned==Rows.wholeFanRow.pinnedBy)=true:=by kernel_rfl
theorem j16:(Rows.wholeFanRow.plainKeys==Tryz.prog.plainKeys)=true:=by kernel_rfl
theorem j17:(Tryz.prog.make==some Rows.wholeFanRow.make)=true:=by kernel_rfl
theorem abe:joinedFacts Tryz.pinned.checked.prog 3 Tryz.f3 Rows.wholeFanSpec Rows.wholeFanRow=true:=by
 unfold joinedFacts;exact an (an (an (an (an (an (an (an (an (an (an (an (an (an (an (an (an (an (an (an (an (an (an (an (an (an (an (an (an (an (an j1 Im) j3) (by kernel_rfl)) j5) (by kernel_rfl)) (by kernel_rfl)) (by kernel_rfl)) (by kernel_rfl)) j8) j9) j10) j11) (by kernel_rfl)) (by kernel_rfl)) (by kernel_rfl)) (by kernel_rfl)) (by kernel_rfl)) (by kernel_rfl)) (by kernel_rfl)) (by kernel_rfl)) (by kernel_rfl)) j16) (by kernel_rfl)) (by kernel_rfl)) (by kernel_rfl)) j12) j17) (by kernel_rfl)) j13) (by kernel_rfl)) (by kernel_rfl)
theorem named:Tryz.pinned.checked.prog.funcNamed Rows.wholeFanRow.func=some 3:=by kernel_rfl
theorem inst:Tryz.f3.isInstance Tryz.prog Rows.wholeFanRow.origin Rows.wholeFanRow.targs:=of_decide_eq_true (by kernel_rfl)
theorem wrap:Tryz.f3.isWrapper Tryz.prog Rows.wholeFanRow.wrapper Rows.wholeFanRow.mainSum:=by unfold Func.isWrapper;first|(rw[if_pos (by decide +kernel)];kernel_rfl)|(rw[if_neg (by decide +kernel)];exact⟨rfl,rfl⟩)
end Go.Proofs.YtohebioanhliiaaGreatDoor.wholeFan.Il
