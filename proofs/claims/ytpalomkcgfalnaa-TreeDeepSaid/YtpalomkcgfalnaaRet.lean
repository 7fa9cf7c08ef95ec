/- Several results, some of them in memory. -/
import Derived.Test.YtpalomkcgfalnaaConsts
set_option linter.unusedVariables false
set_option linter.unusedSimpArgs false
namespace Go.Proofs.Ytpalomkcgfalnaa
open Go Go.RowKit
def oneRes (tmps : Array Value) : ResultVar → Sem Value
  | .tmp t => pure (tmps.getD t undef)
  | .cell a t => do loadVar t (← asAddr (tmps.getD a undef))
def ResAt (P : Program) (tmps : Array Value) (w : World) (r : ResultVar) (v : Value) : Prop := (oneRes tmps r).run P w = .ok v w
theorem results_one (fn : Func) (tmps : Array Value) : results fn tmps = (do let vs ← fn.results.mapM (oneRes tmps); pure (if h : vs.size = 1 then vs[0] else .tuple vs)) := by
  have e : oneRes tmps = (fun
    | .tmp t => pure (tmps.getD t undef)
    | .cell a t => do loadVar t (← asAddr (tmps.getD a undef))) := by funext r; cases r <;> rfl
  rw [e]
  rfl
section
variable {P : Program} {fn : Func} {tmps : Array Value} {w : World}
theorem ResAt.row {p : Tmp} {ty : TypeId} {g : Nat} {t : TypeId} {cs : List Value} (hg : Bk w g t cs) (hp : tmps.getD p undef = .pointer (some ⟨g, 0, none⟩)) (d : TypeDesc)
    (hu : P.underlying ty = some d) (hd : (match d with | .struct _ | .array _ _ => true | _ => false) = true) (hi : (P.info? ty).map (·.size) = some cs.length) : ResAt P tmps w (.cell p ty) (.agg cs.toArray) := by
  unfold ResAt oneRes
  simp only [hp]
  simp [asAddr, run_loadVar_row w g t ty cs.toArray (0, 0) d hg hu hd (by simpa using hi)]
theorem ResAt.tmp {t : Tmp} {v : Value} (h : tmps.getD t undef = v) : ResAt P tmps w (.tmp t) v := by subst h; rfl
theorem results_two {r1 r2 : ResultVar} {v1 v2 : Value} (h : fn.results = #[r1, r2]) (h1 : ResAt P tmps w r1 v1) (h2 : ResAt P tmps w r2 v2) : (results fn tmps).run P w = .ok (.tuple #[v1, v2]) w := by
  unfold ResAt at h1 h2
  rw [results_one, h]
  simp [h1, h2]
theorem results_three {r1 r2 r3 : ResultVar} {v1 v2 v3 : Value} (h : fn.results = #[r1, r2, r3]) (h1 : ResAt P tmps w r1 v1) (h2 : ResAt P tmps w r2 v2) (h3 : ResAt P tmps w r3 v3) : (results fn tmps).run P w = .ok (.tuple #[v1, v2, v3]) w := by
  unfold ResAt at h1 h2 h3
  rw [results_one, h]
  simp [h1, h2, h3]
end
end Go.Proofs.Ytpalomkcgfalnaa
