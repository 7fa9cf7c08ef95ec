/- witanlaw09.same: a tree has just these pairs. -/
import Derived.Test.YtlegpkdighoflaaAll
import Derived.Test.YtlegpkdighoflaaMO
import Derived.Test.YtlegpkdighoflaaPairEq
import Derived.RangeFuncNested
import Derived.Outline
set_option linter.unusedVariables false
set_option linter.unusedSimpArgs false
namespace Go.Proofs.Ytlegpkdighoflaa
open Go Go.RowKit Sh
@[go_sem ↓ high] theorem run_semAt_some {P : Program} {w : World} (l : Nat) (ρ : Operand → Value) (o : Oper) (h : (match o.op with | .defer _ => false | _ => true) = true) : (Oper.semAt (some l) ρ o).run P w = (execOp ρ o).run P w := by
  rw [Oper.semAt_eq]
  intro c e
  rw [e] at h
  cases h
@[go_sem ↓ high] theorem run_semAt_inRound {P : Program} {w : World} (F : Fence) (l : Nat) (ρ : Operand → Value) (o : Oper) (h : (match o.op with | .defer _ => false | _ => true) = true) : (Oper.semAt (F.inRound l).round ρ o).run P w = (execOp ρ o).run P w := run_semAt_some l ρ o h
attribute [local go_sem] Oper.semAt_some
theorem bk_own {A B : World} {row : Option Nat} {g : Nat} {t : TypeId} {cs : List Value} (h : Bk A g t cs) (hg : A.grownBy B row) (hr : ∀ r, row = some r → ∃ o : Obj, A.heap[r]? = some o ∧ o.isCells = false) : Bk B g t cs := by
  refine h.grown hg fun e => ?_
  obtain ⟨o, ho, hc⟩ := hr g e.symm
  unfold Bk at h
  rw [h] at ho
  injection ho with ho
  subst ho
  cases hc
theorem keeps_drewN (W : World) (n : Nat) : KeepsOthers W (W.drewN n) := ⟨Nat.le_refl _, fun _ _ h _ => h⟩
theorem keeps_putAt (W : World) (g o : Nat) : ∀ (cs : List Value), KeepsOthers W (putAt W ⟨g, o, none⟩ cs) := by
  have : ∀ (cs : List Value) (o : Nat) (W : World), KeepsOthers W (W.setCells g o cs) := by
    intro cs
    induction cs with
    | nil => intro o W; exact KeepsOthers.refl W
    | cons v r ih => intro o W; exact (KeepsOthers.setCell W ⟨g, o, none⟩ v).trans (ih (o + 1) _)
  exact fun cs => this cs o W
theorem pb_inj {p q : Pr} (hp : PrOk p) (hq : PrOk q) (h : pb p = pb q) : p = q := by
  unfold pb at h
  have := List.append_inj h (by rw [hp.1, hq.1])
  exact Prod.ext this.1 this.2
theorem take_map_step {l : List Pr} {pre : List PrS} {x : PrS} (h : pre.map (·.1) = l.take pre.length) (hx : l[pre.length]? = some x.1) : (pre ++ [x]).map (·.1) = l.take (pre ++ [x]).length := by
  rw [List.map_append, h, List.length_append, List.length_singleton, List.take_add_one, hx]
  rfl
end Go.Proofs.Ytlegpkdighoflaa
