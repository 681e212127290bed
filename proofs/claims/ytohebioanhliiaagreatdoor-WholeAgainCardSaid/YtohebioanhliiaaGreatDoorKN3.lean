/- The Go function WholeAgain returns true for every input, and each argument reads behind the call as it read before: the tied card. No condition but the given row's own: the package-level variables that it lists stand as the program's text lays them. -/
import Derived.Test.YtohebioanhliiaaGreatDoorKN2
import Derived.Test.YtohebioanhliiaaGreatDoorKN1
import Derived.Test.YtohebioanhliiaaGreatDoorTie
import Derived.Test.YtohebioanhliiaaGreatDoorCards
set_option maxRecDepth 100000
set_option linter.unusedVariables false
set_option linter.unusedSimpArgs false
namespace Go.Proofs.YtohebioanhliiaaGreatDoor.wholeAgain
open Go.ChangeShapes Go.WideShapes Go.ChangeAt Go.RowKit Go.Sx Go.Proofs.YtohebioanhliiaaGreatDoor.aD
theorem lifted(os:Os)(started:os.Started)(H:Type)(enc:TypeId×Value->H) :
   ReturnsInHanded {} Tryz.checked os 6 .any (fun w args=>(Rows.wholeAgainSpec.pre enc Tryz.prog Tryz.f6 [] false w args/\laidMetH Tryz.prog zb w)/\sizedMet enc Tryz.prog Tryz.f6 (OpenSpec.ofChange Rows.wholeAgainSpec) false w args)
     (Rows.wholeAgainSpec.post enc Tryz.prog Tryz.f6 false true false false):=by
 refine returnsInHanded_of_change_and (C:=Tryz.checked) (X:=fun w _=>laidMetH Tryz.prog zb w) (fun _ _ _ hh h=>h.of_heap hh) own started (by kernel_rfl) Tryz.func6
   (ChangeSpec.witness_shaped (enc:=enc) (C:=Tryz.checked) (os:=os) (X:=fun w _=>laidMetH Tryz.prog zb w) false (World.laidAll Tryz.prog os zb) #[.slice none 0 0] 8 (World.laidAll_os _ _ _)
     (World.shaped_of_ZipB (by kernel_rfl) (by kernel_rfl)) (by kernel_rfl) (by kernel_rfl) (by kernel_rfl)
     (by rw[Uj];exact laidMet_laidAll _ (by kernel_rfl) (by kernel_rfl))) ?_
 intro W base args ds gs before fq hW _ _ hL _;exact LR V7.slice V7.agg (aku (k:=6) (s:=sg6) z14z (by kernel_rfl) rfl rfl g6) (Gu hL) (fun _ _ h=>h) rfl (by kernel_rfl) Ep (by kernel_rfl) rfl rfl rfl (fun ds h=>by match ds,h with| [a],_=>rfl) fq hW (fun DQ h _=>(fun _ h=>NZ h) DQ h)
theorem holds:Rows.WholeAgainSaid:=
 OpenClaim.holds_of_wide 6 Tryz.f6 rfl rfl rfl rfl rfl rfl rfl ⟨rfl,rfl,rfl,rfl,rfl⟩ rfl rfl rfl rfl rfl Eo.named Tryz.func6 Eo.WT
   Eo.inst Eo.wrap
   (fun os started H enc _=>lifted os started H enc)
theorem proved:Rows.WholeAgainCardSaid:=
 Claim7.holds_tied_plain_at .later [] [.data,.data,.data,.data,.data,.sentinel,.sentinel] true (true,"2afb62b030b826eca8a00db1c9c4fc8da8c6b45d2a016693c6c25d61e2c85ce0") true
   holds (fun _ h=>by cases h) (by kernel_rfl) (fun _ h=>by cases h) wholeAgain_row_tie rfl ⟨rfl,rfl⟩ (by kernel_rfl) rfl
   (fun f fn hf ki=>by
     obtain rfl:f=6:=Option.some.inj ((show Tryz.prog.funcNamed "rastrum/rastrumtop.WholeAgain" = some 6 by kernel_rfl).symm.trans hf) |>.symm
     obtain rfl:fn=Tryz.f6:=(Option.some.inj (Tryz.func6.symm.trans ki)).symm;exact⟨by kernel_rfl,fun j t ht=>by
       have b8:(Tryz.f6.params.toList.all fun u=>!Tryz.prog.wantsStandIn u)=true:=by kernel_rfl
       have hm:t∈Tryz.f6.params.toList:=Array.mem_toList_iff.2 (Array.mem_of_getElem? ht);exact(show Tryz.prog.wantsStandIn t=false by simpa using List.all_eq_true.1 b8 t hm)⟩)
   (by kernel_rfl)
end Go.Proofs.YtohebioanhliiaaGreatDoor.wholeAgain
