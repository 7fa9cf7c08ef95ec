/- A part of the proof of AuditTells. -/
import Derived.ProofKit
import Derived.OpenShut
import Derived.ShutString
import Derived.Deep.Slices
import Derived.Laws.StructEq
import Derived.Test.YtmllnpokbbabhaaGreatTau
set_option linter.unusedVariables false
set_option linter.unusedSimpArgs false
set_option maxRecDepth 100000
set_option maxHeartbeats 40000000
namespace Go.Proofs.YtmllnpokbbabhaaGreat
open Go Go.RowKit Sh
section
open Go.ChangeAt Go.ChangeShapes Go.WideShapes
end
section
open Go.ChangeAt Go.ChangeShapes Go.WideShapes
end
section
open Go.ChangeAt Go.ChangeShapes Go.WideShapes
end
end Go.Proofs.YtmllnpokbbabhaaGreat
