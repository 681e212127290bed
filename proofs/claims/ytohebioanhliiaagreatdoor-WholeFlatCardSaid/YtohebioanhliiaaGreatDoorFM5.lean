/- The Go function WholeFlat returns true for every input, and each argument reads behind the call as it read before: the tied card. No condition but the given row's own: the package-level variables that it lists stand as the program's text lays them. -/
import Derived.Test.YtohebioanhliiaaGreatDoorFM4
import Derived.Test.YtohebioanhliiaaGreatDoorFM3
import Derived.Test.YtohebioanhliiaaGreatDoorTie
import Derived.Test.YtohebioanhliiaaGreatDoorCards
set_option maxRecDepth 100000
set_option linter.unusedVariables false
set_option linter.unusedSimpArgs false
namespace Go.Proofs.YtohebioanhliiaaGreatDoor.wholeFlat
open Go.ChangeShapes Go.WideShapes Go.ChangeAt Go.RowKit Go.Sx Go.Proofs.YtohebioanhliiaaGreatDoor.aN
theorem lifted(os:Os)(started:os.Started)(H:Type)(enc:TypeId×Value->H) :
   ReturnsInHanded {} Tryz.checked os 5 .any (fun w args=>(Rows.wholeFlatSpec.pre enc Tryz.prog Tryz.f5 [] false w args/\laidMetH Tryz.prog B6 w)/\sizedMet enc Tryz.prog Tryz.f5 (OpenSpec.ofChange Rows.wholeFlatSpec) false w args)
     (Rows.wholeFlatSpec.post enc Tryz.prog Tryz.f5 false true false false):=by
 refine returnsInHanded_of_change_and (C:=Tryz.checked) (X:=fun w _=>laidMetH Tryz.prog B6 w) (fun _ _ _ hh h=>h.of_heap hh) own started (by kernel_rfl) Tryz.func5
   (ChangeSpec.witness_shaped (enc:=enc) (C:=Tryz.checked) (os:=os) (X:=fun w _=>laidMetH Tryz.prog B6 w) false (World.laidAll Tryz.prog os B6) #[.slice none 0 0] 8 (World.laidAll_os _ _ _)
     (World.shaped_of_ZipB (by kernel_rfl) (by kernel_rfl)) (by kernel_rfl) (by kernel_rfl) (by kernel_rfl)
     (by rw[YL];exact laidMet_laidAll _ (by kernel_rfl) (by kernel_rfl))) ?_
 intro W base args ds gs before gI hW _ _ hL _;exact Pw Z'.slice Z'.agg (anj (k:=5) (s:=sg5) T5 (by kernel_rfl) rfl rfl g5) (JQ hL) (fun _ _ h=>h) rfl (by kernel_rfl) HB (by kernel_rfl) rfl rfl rfl (fun ds h=>by match ds,h with| [a],_=>rfl) gI hW (fun F7 h _=>(fun _ h=>RT h) F7 h)
theorem holds:Rows.WholeFlatSaid:=
 OpenClaim.holds_of_wide 5 Tryz.f5 rfl rfl rfl rfl rfl rfl rfl ⟨rfl,rfl,rfl,rfl,rfl⟩ rfl rfl rfl rfl rfl HA.named Tryz.func5 HA.aaH
   HA.inst HA.wrap
   (fun os started H enc _=>lifted os started H enc)
theorem proved:Rows.WholeFlatCardSaid:=
 Claim7.holds_tied_plain_at .later [] [.data,.data,.data,.data,.data,.sentinel,.sentinel] true (true,"2afb62b030b826eca8a00db1c9c4fc8da8c6b45d2a016693c6c25d61e2c85ce0") true
   holds (fun _ h=>by cases h) (by kernel_rfl) (fun _ h=>by cases h) wholeFlat_row_tie rfl ⟨rfl,rfl⟩ (by kernel_rfl) rfl
   (fun f fn hf mA=>by
     obtain rfl:f=5:=Option.some.inj ((show Tryz.prog.funcNamed "rastrum/rastrumtop.WholeFlat" = some 5 by kernel_rfl).symm.trans hf) |>.symm;obtain rfl:fn=Tryz.f5:=(Option.some.inj (Tryz.func5.symm.trans mA)).symm;exact⟨by kernel_rfl,fun j t ht=>by
       have cJ:(Tryz.f5.params.toList.all fun u=>!Tryz.prog.wantsStandIn u)=true:=by kernel_rfl
       have hm:t∈Tryz.f5.params.toList:=Array.mem_toList_iff.2 (Array.mem_of_getElem? ht);exact(show Tryz.prog.wantsStandIn t=false by simpa using mE.1 cJ t hm)⟩)
   (by kernel_rfl)
end Go.Proofs.YtohebioanhliiaaGreatDoor.wholeFlat
