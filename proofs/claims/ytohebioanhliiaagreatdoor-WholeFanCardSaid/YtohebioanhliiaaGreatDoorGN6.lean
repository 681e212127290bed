/- The Go function WholeFan returns true for every input, and each argument reads behind the call as it read before: the tied card. No condition but the given row's own: the package-level variables that it lists stand as the program's text lays them. -/
import Derived.Test.YtohebioanhliiaaGreatDoorGN5
import Derived.Test.YtohebioanhliiaaGreatDoorGN4
import Derived.Test.YtohebioanhliiaaGreatDoorTie
import Derived.Test.YtohebioanhliiaaGreatDoorCards
set_option maxRecDepth 100000
set_option linter.unusedVariables false
set_option linter.unusedSimpArgs false
namespace Go.Proofs.YtohebioanhliiaaGreatDoor.wholeFan
open Go.ChangeShapes Go.WideShapes Go.ChangeAt Go.RowKit Go.Sx Go.Proofs.YtohebioanhliiaaGreatDoor.av
theorem lifted(os:Os)(started:os.Started)(H:Type)(enc:TypeId×Value->H) :
   ReturnsInHanded {} Tryz.checked os 3 .any (fun w args=>(Rows.wholeFanSpec.pre enc Tryz.prog Tryz.f3 [] false w args/\laidMetH Tryz.prog CP w)/\sizedMet enc Tryz.prog Tryz.f3 (OpenSpec.ofChange Rows.wholeFanSpec) false w args)
     (Rows.wholeFanSpec.post enc Tryz.prog Tryz.f3 false true false false):=by
 refine returnsInHanded_of_change_and (C:=Tryz.checked) (X:=fun w _=>laidMetH Tryz.prog CP w) (fun _ _ _ hh h=>h.of_heap hh) own started (by kernel_rfl) Tryz.func3
   (ChangeSpec.witness_shaped (enc:=enc) (C:=Tryz.checked) (os:=os) (X:=fun w _=>laidMetH Tryz.prog CP w) false (World.laidAll Tryz.prog os CP) #[.agg #[.int .i64 0,.int .i64 0],.agg #[.int .i64 0,.int .i64 0],.agg #[.int .i64 0,.int .i64 0]] 8 (World.laidAll_os _ _ _)
     (World.shaped_of_ZipB (by kernel_rfl) (by kernel_rfl)) (by kernel_rfl) (by kernel_rfl) (by kernel_rfl)
     (by rw[ZD];exact laidMet_laidAll _ (by kernel_rfl) (by kernel_rfl))) ?_
 intro W base args ds gs before gm hW _ _ hL _;exact QM aaR.slice aaR.agg (amK (k:=3) (s:=sg3) T3 (by kernel_rfl) rfl rfl g3) (KU hL) (fun _ _ h=>h) rfl (by kernel_rfl) Im (by kernel_rfl) rfl rfl rfl (fun ds h=>by match ds,h with| [a,b,c],_=>rfl) gm hW (fun GV h _=>(fun _ h=>Xw h) GV h)
theorem holds:Rows.WholeFanSaid:=
 OpenClaim.holds_of_wide 3 Tryz.f3 rfl rfl rfl rfl rfl rfl rfl ⟨rfl,rfl,rfl,rfl,rfl⟩ rfl rfl rfl rfl rfl Il.named Tryz.func3 Il.abe
   Il.inst Il.wrap
   (fun os started H enc _=>lifted os started H enc)
theorem proved:Rows.WholeFanCardSaid:=
 Claim7.holds_tied_plain_at .later [] [.data,.data,.data,.data,.data,.sentinel,.sentinel] true (true,"2afb62b030b826eca8a00db1c9c4fc8da8c6b45d2a016693c6c25d61e2c85ce0") true
   holds (fun _ h=>by cases h) (by kernel_rfl) (fun _ h=>by cases h) wholeFan_row_tie rfl ⟨rfl,rfl⟩ (by kernel_rfl) rfl
   (fun f fn hf mF=>by
     obtain rfl:f=3:=Option.some.inj ((show Tryz.prog.funcNamed "rastrum/rastrumtop.WholeFan" = some 3 by kernel_rfl).symm.trans hf) |>.symm;obtain rfl:fn=Tryz.f3:=(Option.some.inj (Tryz.func3.symm.trans mF)).symm;exact⟨by kernel_rfl,fun j t ht=>by
       have cK:(Tryz.f3.params.toList.all fun u=>!Tryz.prog.wantsStandIn u)=true:=by kernel_rfl
       have hm:t∈Tryz.f3.params.toList:=Array.mem_toList_iff.2 (Array.mem_of_getElem? ht);exact(show Tryz.prog.wantsStandIn t=false by simpa using kG.1 cK t hm)⟩)
   (by kernel_rfl)
end Go.Proofs.YtohebioanhliiaaGreatDoor.wholeFan
