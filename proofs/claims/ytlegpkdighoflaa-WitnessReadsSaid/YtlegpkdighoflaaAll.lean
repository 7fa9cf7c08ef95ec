/- The tree's iterator: its contract. -/
import Derived.Test.YtlegpkdighoflaaHoistIn
import Derived.Test.YtlegpkdighoflaaMG
import Derived.RangeFuncNested
import Derived.RangeFuncBound
import Derived.RangeFuncCalls
import Derived.RangeFuncLeaves
import Derived.RangeFuncKeeps
import Derived.Shelf.Abstract
import Derived.Shelf.RegionOpen
import Derived.WalkKit
import Derived.OwnWalkIn
import Derived.TacticsInMore
import Derived.Outline
set_option linter.unusedVariables false
set_option linter.unusedSimpArgs false
namespace Go.Proofs.Ytlegpkdighoflaa
open Go Go.RowKit Sh
attribute [local go_sem] Oper.semAt_some
theorem room_of_none {F : Fence} (hd : F.depth = none) (k : Nat) : F.room k := fun d h => by rw [hd] at h; cases h
theorem roundAnyDepth {F : Fence} (hd : F.depth = none) {m m' : Nat} {P : Program} {l : Nat} {f : FuncId} {tmps : Array Value} {assign body : Code} {w : World} {R : Ending → World → Prop}
    (h : RoundIn F m P l f tmps assign body w R) : RoundIn F m' P l f tmps assign body w R := ⟨h.1, fun c cs _ => h.2 c cs (room_of_none hd _)⟩
theorem yieldAnyDepth {F : Fence} (hd : F.depth = none) {m : Nat} (m' : Nat) {P : Program} {l : Nat} {args : Array Value} {W : World} {R : Ending → World → Prop} (h : YieldAt F m P l args W R) : YieldAt F m' P l args W R := by
  obtain ⟨fn, tmps, assign, body, hy, hR⟩ := h
  exact ⟨fn, tmps, assign, body, hy, roundAnyDepth hd hR⟩
abbrev PrS := {p : Pr // PrOk p}
def encP (x : PrS) : Array Value := #[A8 x.1.1, A8 x.1.2]
open Classical in
/-- A tree's pairs, each with what is known of it. -/
noncomputable def Tr.prs : Tr → List PrS
  | .e => []
  | .lf k v => if h : PrOk (k, v) then [⟨(k, v), h⟩] else []
  | .nd l r => l.prs ++ r.prs
theorem prs_pairs : ∀ {t : Tr} {d : Nat} {P : Nat → Bool}, Ok d P t → t.prs.map (·.1) = t.pairs
  | .e, _, _, _ => rfl
  | .lf k v, _, _, ok => by
    have h : PrOk (k, v) := ⟨ok.1, ok.2.1⟩
    simp [Tr.prs, Tr.pairs, h]
  | .nd l r, _, _, ok => by simp only [Tr.prs, Tr.pairs, List.map_append, prs_pairs ok.2.2.1, prs_pairs ok.2.2.2]
theorem hdw (k : Nat) : Fence.wide.depth.isSome = true → 1 ≤ k := fun h => by cases h
end Go.Proofs.Ytlegpkdighoflaa
