/- Emit: its tree and its check. -/
import Derived.Test.YtohebioanhliiaaGreatDoorGC1
set_option maxRecDepth 100000
set_option linter.unusedVariables false
set_option linter.unusedSimpArgs false
