/- Functions that come to an end, as their contracts say. -/
import Derived.Test.YtohebioanhliiaaGreatDoorGW0
set_option maxRecDepth 100000
namespace Go.Proofs.YtohebioanhliiaaGreatDoor.av
open Go.Sx
theorem y1:uJ PP 159 [true]=true:=by kernel_rfl
theorem y00:uJ PP 159 [false,false]=true:=by kernel_rfl
theorem amL:uJ PP 159 [false,true,false]=true:=by kernel_rfl
theorem af7:uJ PP 159 [false,true,true,false]=true:=by kernel_rfl
theorem acf:uJ PP 159 [false,true,true,true,false]=true:=by kernel_rfl
theorem Yi:uJ PP 159 [false,true,true,true,true,true]=true:=by kernel_rfl
theorem yr:YU PP (rowOf 24) 94 18=true:=by kernel_rfl
end Go.Proofs.YtohebioanhliiaaGreatDoor.av
