/- A part of the proof of AuditBatch. -/
import Derived.Test.YtdfpoofbgjilgaaGreatUbc
set_option linter.unusedVariables false
set_option linter.unusedSimpArgs false
set_option maxRecDepth 100000
set_option maxHeartbeats 40000000
namespace Go.Proofs.YtdfpoofbgjilgaaGreat
open Go Go.RowKit Sh
section
set_option maxRecDepth 100000
set_option maxHeartbeats 0
end
section
set_option maxRecDepth 100000
set_option maxHeartbeats 0
end
section
set_option maxRecDepth 100000
set_option maxHeartbeats 0
end
end Go.Proofs.YtdfpoofbgjilgaaGreat
