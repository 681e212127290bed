/- Emit: its tree and its check. -/
import Derived.Test.YtohebioanhliiaaGreatDoorBC1
import Derived.Test.YtohebioanhliiaaGreatDoorBB2
import Derived.Test.YtohebioanhliiaaGreatDoorBAK
import Derived.KernelRfl
set_option maxRecDepth 100000
set_option linter.unusedVariables false
set_option linter.unusedSimpArgs false
namespace Go.Proofs.YtohebioanhliiaaGreatDoor.aw
open Go.Sx
end Go.Proofs.YtohebioanhliiaaGreatDoor.aw
