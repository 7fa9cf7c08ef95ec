/- In a drawn region: what holds of the worlds may be strengthened on the way. -/
import Derived.Test.YtlegpkdighoflaaHeldMix
import Derived.Test.YtlegpkdighoflaaMC
set_option linter.unusedVariables false
set_option linter.unusedSimpArgs false
namespace Go.Proofs.Ytlegpkdighoflaa
open Go Go.RowKit Sh
theorem wpAnyH_more {P : Program} {md : Region.Mode} {ops : Array Oper} {Q : Exit → Act → World → Prop} {S S' : World → Prop} (h : ∀ W, S' W → S W) : ∀ (fuel : Nat) (listed : Array Bool) (a : Act) (w : World), wpAnyH P md ops Q S' fuel listed a w → wpAnyH P md ops Q S fuel listed a w
  | 0, _, _, _, H => H
  | fuel + 1, _, _, _, H => ⟨H.1, fun i hi => wpOp_mono (fun a' w' h' => ⟨h _ h'.1, wpAnyH_more h fuel _ a' w' h'.2⟩) (H.2 i hi)⟩
theorem held_more {P : Program} {l : List Oper} {Q : Exit → Act → World → Prop} {S : World → Prop} (S' : World → Prop) {done : List Nat} {a : Act} {w : World} (h : ∀ W, S' W → S W) (H : HeldAt P l Q S' done a w) : HeldAt P l Q S done a w := wpAnyH_more h _ _ a w H
/-- From here on: what lies in w0 stays. -/
theorem held_from {P : Program} {l : List Oper} {Q : Exit → Act → World → Prop} {w0 w1 : World} (hb : Below w0.heap.size w0 w1) {done : List Nat} {a : Act} {w : World} (H : HeldAt P l Q (fun W => Below w1.heap.size w1 W) done a w) : HeldAt P l Q (fun W => Below w0.heap.size w0 W) done a w :=
  held_more _ (fun W h => hb.trans (h.mono hb.size)) H
end Go.Proofs.Ytlegpkdighoflaa
