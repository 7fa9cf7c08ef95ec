/- witanlaw10.grown: the tree of pairs and they themselves. -/
import Derived.Test.YtlegpkdighoflaaWitG
set_option linter.unusedVariables false
set_option linter.unusedSimpArgs false
namespace Go.Proofs.Ytlegpkdighoflaa
open Go Go.RowKit Sh
theorem Ps.mid {w w' : World} {lo B : Nat} {v : Value} {l : List Pr} (h : Ps w lo B v l) (hm : Mid lo B w w') : Ps w' lo B v l := let ⟨h0, A, c, h1, h2, h3, h4⟩ := h; ⟨h0, A, c, h1, h2, h3, h4.mid hm⟩
end Go.Proofs.Ytlegpkdighoflaa
