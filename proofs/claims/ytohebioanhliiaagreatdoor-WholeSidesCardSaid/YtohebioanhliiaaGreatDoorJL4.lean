/- The Go function WholeSides returns true for every input, and each argument reads behind the call as it read before: the tied card. No condition but the given row's own: the package-level variables that it lists stand as the program's text lays them. -/
import Derived.Test.YtohebioanhliiaaGreatDoorJL3
import Derived.Test.YtohebioanhliiaaGreatDoorJL2
import Derived.Test.YtohebioanhliiaaGreatDoorTie
import Derived.Test.YtohebioanhliiaaGreatDoorCards
set_option maxRecDepth 100000
set_option linter.unusedVariables false
set_option linter.unusedSimpArgs false
namespace Go.Proofs.YtohebioanhliiaaGreatDoor.wholeSides
open Go.ChangeShapes Go.WideShapes Go.ChangeAt Go.RowKit Go.Sx Go.Proofs.YtohebioanhliiaaGreatDoor.aF
theorem lifted(os:Os)(started:os.Started)(H:Type)(enc:TypeId×Value->H) :
   ReturnsInHanded {} Tryz.checked os 7 .any (fun w args=>(Rows.wholeSidesSpec.pre enc Tryz.prog Tryz.f7 [] false w args/\laidMetH Tryz.prog Bo w)/\sizedMet enc Tryz.prog Tryz.f7 (OpenSpec.ofChange Rows.wholeSidesSpec) false w args)
     (Rows.wholeSidesSpec.post enc Tryz.prog Tryz.f7 false true false false):=by
 refine returnsInHanded_of_change_and (C:=Tryz.checked) (X:=fun w _=>laidMetH Tryz.prog Bo w) (fun _ _ _ hh h=>h.of_heap hh) own started (by kernel_rfl) Tryz.func7
   (ChangeSpec.witness_shaped (enc:=enc) (C:=Tryz.checked) (os:=os) (X:=fun w _=>laidMetH Tryz.prog Bo w) false (World.laidAll Tryz.prog os Bo) #[.slice none 0 0,.agg #[.int .i16 0,.int .i16 0,.int .i16 0,.int .i16 0,.int .i16 0,.int .i16 0,.int .i16 0,.int .i16 0]] 8 (World.laidAll_os _ _ _)
     (World.shaped_of_ZipB (by kernel_rfl) (by kernel_rfl)) (by kernel_rfl) (by kernel_rfl) (by kernel_rfl)
     (by rw[XM];exact laidMet_laidAll _ (by kernel_rfl) (by kernel_rfl))) ?_
 intro W base args ds gs before fY hW _ _ hL _;exact OK ZF.slice ZF.agg (ane (k:=7) (s:=sg7) T7 (by kernel_rfl) rfl rfl g7w) (I0 hL) (fun _ _ h=>h) rfl (by kernel_rfl) GN (by kernel_rfl) rfl rfl rfl (fun ds h=>by match ds,h with| [a,b],_=>rfl) fY hW (fun Ff h _=>(fun _ h=>Wb h) Ff h)
theorem holds:Rows.WholeSidesSaid:=
 OpenClaim.holds_of_wide 7 Tryz.f7 rfl rfl rfl rfl rfl rfl rfl ⟨rfl,rfl,rfl,rfl,rfl⟩ rfl rfl rfl rfl rfl GM.named Tryz.func7 GM.aac
   GM.inst GM.wrap
   (fun os started H enc _=>lifted os started H enc)
theorem proved:Rows.WholeSidesCardSaid:=
 Claim7.holds_tied_plain_at .later [] [.data,.data,.data,.data,.data,.sentinel,.sentinel] true (true,"2afb62b030b826eca8a00db1c9c4fc8da8c6b45d2a016693c6c25d61e2c85ce0") true
   holds (fun _ h=>by cases h) (by kernel_rfl) (fun _ h=>by cases h) wholeSides_row_tie rfl ⟨rfl,rfl⟩ (by kernel_rfl) rfl
   (fun f fn hf lL=>by
     obtain rfl:f=7:=Option.some.inj ((show Tryz.prog.funcNamed "rastrum/rastrumtop.WholeSides" = some 7 by kernel_rfl).symm.trans hf) |>.symm;obtain rfl:fn=Tryz.f7:=(Option.some.inj (Tryz.func7.symm.trans lL)).symm;exact⟨by kernel_rfl,fun j t ht=>by
       have ch:(Tryz.f7.params.toList.all fun u=>!Tryz.prog.wantsStandIn u)=true:=by kernel_rfl
       have hm:t∈Tryz.f7.params.toList:=Array.mem_toList_iff.2 (Array.mem_of_getElem? ht);exact(show Tryz.prog.wantsStandIn t=false by simpa using jE.1 ch t hm)⟩)
   (by kernel_rfl)
end Go.Proofs.YtohebioanhliiaaGreatDoor.wholeSides
