/- A part of the proof of DirOrder. -/
import Derived.Test.YtlegpkdighoflaaGreatQam
set_option linter.unusedVariables false
set_option linter.unusedSimpArgs false
set_option maxRecDepth 100000
set_option maxHeartbeats 40000000
namespace Go.Proofs.YtlegpkdighoflaaGreat
open Go Go.RowKit Sh
def C7d (v:UInt64) (k:Nat):List UInt8:=(List.range 8).map fun j=>if 8-k≤j then g8 (Y4 v) j else 0
@[simp] theorem C4h (v : UInt64) (k : Nat) : (C7d v k).length = 8 := by simp [C7d]
attribute [irreducible] C7d
end Go.Proofs.YtlegpkdighoflaaGreat
