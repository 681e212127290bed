/- Closed facts of WholeFlat's row. -/
import Derived.Test.YtohebioanhliiaaGreatDoorFZ2
set_option maxRecDepth 100000
namespace Go.Proofs.YtohebioanhliiaaGreatDoor.wholeFlat.HA
open Go Go.Proofs.YtohebioanhliiaaGreatDoor.aN
theorem an{a b:Bool}(ha:a=true)(hb:b=true):(a&&b)=true:=by rw[ha,hb];rfl
theorem j1:Rows.wholeFlatRow.wf (OpenSpec.ofChange Rows.wholeFlatSpec)=true:=by kernel_rfl
theorem j3:mapsRowed Tryz.prog=true:=by kernel_rfl
theorem j5:namedTie Tryz.prog Rows.wholeFlatRow.named Rows.wholeFlatSpec.vars=true:=by kernel_rfl
theorem j8:(Rows.wholeFlatRow.inPlace==Tryz.prog.inPlace 5)=true:=by kernel_rfl
theorem j9:(Rows.wholeFlatRow.unfollowed==Tryz.prog.unfollowed 5)=true:=by kernel_rfl
theorem j10:(Rows.wholeFlatRow.recurses==Tryz.prog.recurses 5)=true:=by kernel_rfl
theorem j11:(Rows.wholeFlatRow.named==Tryz.prog.varsNamed 5)=true:=by kernel_rfl
theorem j12:(Rows.wholeFlatRow.lifted==Tryz.prog.liftsFinal)=true:=by kernel_rfl
theorem j13:(Rows.wholeFlatRow.pinned==Rows.wholeFlatRow.pinnedBy)=true:=by kernel_rfl
theorem j16:(Rows.wholeFlatRow.plainKeys==Tryz.prog.plainKeys)=true:=by kernel_rfl
theorem j17:(Tryz.prog.make==some Rows.wholeFlatRow.make)=true:=by kernel_rfl
theorem aaH:joinedFacts Tryz.pinned.checked.prog 5 Tryz.f5 Rows.wholeFlatSpec Rows.wholeFlatRow=true:=by
 unfold joinedFacts;exact an (an (an (an (an (an (an (an (an (an (an (an (an (an (an (an (an (an (an (an (an (an (an (an (an (an (an (an (an (an (an j1 HB) j3) (by kernel_rfl)) j5) (by kernel_rfl)) (by kernel_rfl)) (by kernel_rfl)) (by kernel_rfl)) j8) j9) j10) j11) (by kernel_rfl)) (by kernel_rfl)) (by kernel_rfl)) (by kernel_rfl)) (by kernel_rfl)) (by kernel_rfl)) (by kernel_rfl)) (by kernel_rfl)) (by kernel_rfl)) j16) (by kernel_rfl)) (by kernel_rfl)) (by kernel_rfl)) j12) j17) (by kernel_rfl)) j13) (by kernel_rfl)) (by kernel_rfl)
theorem named:Tryz.pinned.checked.prog.funcNamed Rows.wholeFlatRow.func=some 5:=by kernel_rfl
theorem inst:Tryz.f5.isInstance Tryz.prog Rows.wholeFlatRow.origin Rows.wholeFlatRow.targs:=of_decide_eq_true (by kernel_rfl)
theorem wrap:Tryz.f5.isWrapper Tryz.prog Rows.wholeFlatRow.wrapper Rows.wholeFlatRow.mainSum:=by unfold Func.isWrapper;first|(rw[if_pos (by decide +kernel)];kernel_rfl)|(rw[if_neg (by decide +kernel)];exact⟨rfl,rfl⟩)
end Go.Proofs.YtohebioanhliiaaGreatDoor.wholeFlat.HA
