/- The reference's constants: square and cube answer the place of the list. -/
import Derived.Test.YtpalomkcgfalnaaRefA
set_option linter.unusedVariables false
set_option linter.unusedSimpArgs false
namespace Go.Proofs.Ytpalomkcgfalnaa
open Go Go.RowKit Sh
theorem wpList_buildSlice {P : Program} {ops : Array Oper} {rest : List Oper} {o : Oper} {a : Act} {w : World} {Q : Exit → Act → World → Prop} (hg : o.guard = none) (t e len : Nat) (parts : Array (Nat × Operand)) (ho : o.op = .buildSlice t len parts)
    (ht : P.underlying t = some (.slice e)) (size : Nat) (z : Value) (hi : (P.info? e).map (fun i => (i.size, i.zero)) = some (size, some z)) (hl : len * size ≤ 16777216) (hp : len * size ≠ 0) (cells : Array Value)
    (hf : Instr.fill (fun i => some (i * size, size)) ((Array.range (len * size)).map (fun j => z.cells[j % z.cells.size]!)) (parts.map fun (i, x) => (i, a.eval x)).toList = some cells)
    (h : wpList P ops Q rest (a.put o.dst (.slice (some ⟨w.heap.size, 0, none⟩) len len)) (w.alloc (.cells cells e))) : wpList P ops Q (o :: rest) a w :=
  wpList_plain hg fun _ hK => by
    cases hq : P.info? e with
    | none => simp [hq] at hi
    | some i =>
      simp only [hq, Option.map_some, Option.some.injEq, Prod.mk.injEq] at hi
      obtain ⟨h1, h2⟩ := hi
      have hl' : ¬ (16777216 < len * size) := by omega
      have hr : (Instr.buildSlice t len (parts.map fun (i, x) => (i, a.eval x))).run P w = .ok (.slice (some ⟨w.heap.size, 0, none⟩) len len) (w.alloc (.cells cells e)) := by
        unfold Instr.buildSlice
        simp only [Sem.run_bind, run_underlying ht, Result.andThen_ok, sizeOf, typeInfo, Sem.run_pure]
        simp [hq, h1, hl', hp, zeroValue, typeInfo, h2, newRow]
        have hf2 : Instr.fill (fun i => some (i * size, size)) (Array.map (fun x => z.cells[x % z.cells.size]!) (Array.range (len * size))) (List.map (fun x => (x.fst, a.eval x.snd)) parts.toList) = some cells := by simpa using hf
        rw [hf2]
        rfl
      unfold Oper.wp execOp
      simp only [ho, Sem.run_bind, hr, Result.andThen_ok, Sem.run_pure]
      exact hK _ _ h
theorem infoU64 : (Try.prog.info? 96).map (fun i => (i.size, i.zero)) = some (1, some (.int .u64 0)) := by kernel_rfl
set_option maxRecDepth 100000 in
set_option maxHeartbeats 1000000 in
theorem square_any (k : Nat) (hk : k < 8) (w : World) :
    Calls Try.prog 53 #[.int .i64 (k : Int)] w fun e w' => e = .returned (.int .u64 (n64 (g64 squares k))) ∧ Below w.heap.size w w' := by
  have hsq : squares.length = 8 := by decide +kernel
  have hc : (w.alloc (Obj.cells (c64 squares).toArray 96)).cell? ⟨w.heap.size, k, none⟩ = some (.int .u64 (n64 (g64 squares k))) := (Bk.new w _ _).at_ (c64_at (by omega))
  go_enter Try.func53, Try.ntmps53
  go_wp2_with (refine wpList_buildSlice rfl _ 96 _ _ rfl Try.underlying106 1 _ infoU64 (by decide) (by decide) (c64 squares).toArray (by kernel_rfl) ?_)
  go_ret
  exact ⟨rfl, (Below.refl _ _).alloc (Nat.le_refl _) _⟩
set_option maxRecDepth 100000 in
set_option maxHeartbeats 1000000 in
theorem cube_any (k : Nat) (hk : k < 80) (w : World) :
    Calls Try.prog 56 #[.int .i64 (k : Int)] w fun e w' => e = .returned (.int .u64 (n64 (g64 cubes k))) ∧ Below w.heap.size w w' := by
  have hsq : cubes.length = 80 := by decide +kernel
  have hc : (w.alloc (Obj.cells (c64 cubes).toArray 96)).cell? ⟨w.heap.size, k, none⟩ = some (.int .u64 (n64 (g64 cubes k))) := (Bk.new w _ _).at_ (c64_at (by omega))
  go_enter Try.func56, Try.ntmps56
  go_wp2_with (refine wpList_buildSlice rfl _ 96 _ _ rfl Try.underlying106 1 _ infoU64 (by decide) (by decide) (c64 cubes).toArray (by kernel_rfl) ?_)
  go_ret
  exact ⟨rfl, (Below.refl _ _).alloc (Nat.le_refl _) _⟩
end Go.Proofs.Ytpalomkcgfalnaa
