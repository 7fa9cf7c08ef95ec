/- The constants' functions of package sha. -/
import Derived.Test.YtpalomkcgfalnaaArr
import Derived.Test.YtpalomkcgfalnaaSha
import Derived.WalkKit
import Derived.KernelRfl
set_option linter.unusedVariables false
set_option linter.unusedSimpArgs false
namespace Go.Proofs.Ytpalomkcgfalnaa
open Go Go.RowKit Sh
theorem wpList_build_eq {P : Program} {ops : Array Oper} {rest : List Oper} {o : Oper} {a : Act} {w : World} {Q : Exit → Act → World → Prop} (hg : o.guard = none) (t : TypeId) (parts : Array (Nat × Operand)) (ho : o.op = .build t parts)
    (cells : Array Value) (hf : P.built t (parts.map fun (i, x) => (i, a.eval x)).toList = some cells)
    (h : wpList P ops Q rest (a.put o.dst (.agg cells)) w) : wpList P ops Q (o :: rest) a w :=
  wpList_build hg t parts ho (by rw [hf]; rfl) (by rw [hf]; exact h)
theorem results_row {P : Program} {fn : Func} {p : Tmp} {ty : TypeId} (h : fn.results = #[.cell p ty]) (tmps : Array Value) (w : World) (g : Nat) (t : TypeId) (cs : List Value) (d : TypeDesc)
    (hp : tmps.getD p undef = .pointer (some ⟨g, 0, none⟩)) (hg : Bk w g t cs)
    (hu : P.underlying ty = some d) (hd : (match d with | .struct _ | .array _ _ => true | _ => false) = true) (hi : (P.info? ty).map (·.size) = some cs.length) :
    (results fn tmps).run P w = .ok (.agg cs.toArray) w := results_cell_row h tmps w g t cs.toArray (0, 0) d hp hg hu hd (by simpa using hi)
set_option maxRecDepth 100000 in
set_option maxHeartbeats 400000 in
theorem roots_any (w : World) :
    Calls Try.prog 48 #[] w fun e w' => e = .returned (A64 squares) ∧ Below w.heap.size w w' := by
  have hsq : squares.length = 8 := by decide +kernel
  go_enter Try.func48, Try.ntmps48
  go_wp2_with (refine wpList_build_eq rfl _ _ rfl (c64 squares).toArray (by kernel_rfl) ?_)
  exact bodyPost_ret (results_row rfl _ _ _ _ _ _ rfl ((Bk.new w _ _).puts (by simp [hsq])) Try.underlying97 rfl (by simp [info_d8, hsq])) rfl
    ⟨rfl, below_putAt ((Below.refl _ _).alloc (Nat.le_refl _) _) (Nat.le_refl _) _⟩
set_option maxRecDepth 100000 in
set_option maxHeartbeats 400000 in
theorem cubes_any (w : World) :
    Calls Try.prog 49 #[] w fun e w' => e = .returned (A64 cubes) ∧ Below w.heap.size w w' := by
  have hsq : cubes.length = 80 := by decide +kernel
  go_enter Try.func49, Try.ntmps49
  go_wp2_with (refine wpList_build_eq rfl _ _ rfl (c64 cubes).toArray (by kernel_rfl) ?_)
  exact bodyPost_ret (results_row rfl _ _ _ _ _ _ rfl ((Bk.new w _ _).puts (by simp [hsq])) Try.underlying99 rfl (by simp [info_d80, hsq])) rfl
    ⟨rfl, below_putAt ((Below.refl _ _).alloc (Nat.le_refl _) _) (Nat.le_refl _) _⟩
end Go.Proofs.Ytpalomkcgfalnaa
