/- The Go function WholeBounds returns true for every input, and each argument reads behind the call as it read before: the tied card. No condition but the given row's own: the package-level variables that it lists stand as the program's text lays them. -/
import Derived.Test.YtohebioanhliiaaGreatDoorBV5
import Derived.Test.YtohebioanhliiaaGreatDoorBV4
import Derived.Test.YtohebioanhliiaaGreatDoorTie
import Derived.Test.YtohebioanhliiaaGreatDoorCards
set_option maxRecDepth 100000
set_option linter.unusedVariables false
set_option linter.unusedSimpArgs false
namespace Go.Proofs.YtohebioanhliiaaGreatDoor.wholeBounds
open Go.ChangeShapes Go.WideShapes Go.ChangeAt Go.RowKit Go.Sx Go.Proofs.YtohebioanhliiaaGreatDoor.aw
theorem lifted(os:Os)(started:os.Started)(H:Type)(enc:TypeId×Value->H) :
   ReturnsInHanded {} Tryz.checked os 8 .any (fun w args=>(Rows.wholeBoundsSpec.pre enc Tryz.prog Tryz.f8 [] false w args/\laidMetH Tryz.prog zY w)/\sizedMet enc Tryz.prog Tryz.f8 (OpenSpec.ofChange Rows.wholeBoundsSpec) false w args)
     (Rows.wholeBoundsSpec.post enc Tryz.prog Tryz.f8 false true false false):=by
 refine returnsInHanded_of_change_and (C:=Tryz.checked) (X:=fun w _=>laidMetH Tryz.prog zY w) (fun _ _ _ hh h=>h.of_heap hh) own started (by kernel_rfl) Tryz.func8
   (ChangeSpec.witness_shaped (enc:=enc) (C:=Tryz.checked) (os:=os) (X:=fun w _=>laidMetH Tryz.prog zY w) false (World.laidAll Tryz.prog os zY) #[.slice none 0 0,.agg #[.int .u8 0,.int .u8 0,.int .u8 0],.bool false] 8 (World.laidAll_os _ _ _)
     (World.shaped_of_ZipB (by kernel_rfl) (by kernel_rfl)) (by kernel_rfl) (by kernel_rfl) (by kernel_rfl)
     (by rw[Vb];exact laidMet_laidAll _ (by kernel_rfl) (by kernel_rfl))) ?_
 intro W base args ds gs before fi hW _ _ hL _;exact MN XI.slice XI.agg (akb (k:=8) (s:=sg8) T8 (by kernel_rfl) rfl rfl g8) (Hs hL) (fun _ _ h=>h) rfl (by kernel_rfl) Fa (by kernel_rfl) rfl rfl rfl (fun ds h=>by match ds,h with| [a,b,c],_=>rfl) fi hW (fun DI h _=>(fun _ h=>S1 h) DI h)
theorem holds:Rows.WholeBoundsSaid:=
 OpenClaim.holds_of_wide 8 Tryz.f8 rfl rfl rfl rfl rfl rfl rfl ⟨rfl,rfl,rfl,rfl,rfl⟩ rfl rfl rfl rfl rfl E9.named Tryz.func8 E9.X7
   E9.inst E9.wrap
   (fun os started H enc _=>lifted os started H enc)
theorem proved:Rows.WholeBoundsCardSaid:=
 Claim7.holds_tied_plain_at .later [] [.data,.data,.data,.data,.data,.sentinel,.sentinel] true (true,"2afb62b030b826eca8a00db1c9c4fc8da8c6b45d2a016693c6c25d61e2c85ce0") true
   holds (fun _ h=>by cases h) (by kernel_rfl) (fun _ h=>by cases h) wholeBounds_row_tie rfl ⟨rfl,rfl⟩ (by kernel_rfl) rfl
   (fun f fn hf kQ=>by
     obtain rfl:f=8:=Option.some.inj ((show Tryz.prog.funcNamed "rastrum/rastrumtop.WholeBounds" = some 8 by kernel_rfl).symm.trans hf) |>.symm;obtain rfl:fn=Tryz.f8:=(Option.some.inj (Tryz.func8.symm.trans kQ)).symm;exact⟨by kernel_rfl,fun j t ht=>by
       have b6:(Tryz.f8.params.toList.all fun u=>!Tryz.prog.wantsStandIn u)=true:=by kernel_rfl
       have hm:t∈Tryz.f8.params.toList:=Array.mem_toList_iff.2 (Array.mem_of_getElem? ht);exact(show Tryz.prog.wantsStandIn t=false by simpa using k7.1 b6 t hm)⟩)
   (by kernel_rfl)
end Go.Proofs.YtohebioanhliiaaGreatDoor.wholeBounds
