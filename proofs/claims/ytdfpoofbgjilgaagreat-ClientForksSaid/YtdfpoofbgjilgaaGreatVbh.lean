/- A part of the proof of ClientForks. -/
import Derived.RangeFuncNested
import Derived.RangeFuncBound
import Derived.RangeFuncCalls
import Derived.RangeFuncLeaves
import Derived.RangeFuncKeeps
import Derived.Shelf.Abstract
import Derived.Shelf.RegionOpen
import Derived.WalkKit
import Derived.OwnWalkIn
import Derived.TacticsInMore
import Derived.Outline
import Derived.Lib.Bytealg
import Derived.Lib.BytesEntry
import Derived.Test.YtdfpoofbgjilgaaGreatVbg
set_option linter.unusedVariables false
set_option linter.unusedSimpArgs false
set_option maxRecDepth 100000
set_option maxHeartbeats 40000000
namespace Go.Proofs.YtdfpoofbgjilgaaGreat
open Go Go.RowKit Sh
section
attribute [local go_sem] Oper.semAt_some
end
section
attribute [local go_sem] Oper.semAt_some
attribute [local go_sem ↓ high] Hl Ut
end
section
attribute [local go_sem] Oper.semAt_some
attribute [local go_sem ↓ high] Hl
end
section
attribute [local go_sem] Oper.semAt_some
attribute [local go_sem ↓ high] Hl
end
@[go_sem] theorem F4i (e : TypeId) (w : World) (raw : Result Next) (a b : Value) : Fu 2 e w raw (.agg #[a, b]) = .ok (.value (.slice (some ⟨w.heap.size, 0, none⟩) 1 1)) (w.alloc (.cells #[a, b] e)) := by
 rw[A3k,if_pos (by simp)]
end Go.Proofs.YtdfpoofbgjilgaaGreat
