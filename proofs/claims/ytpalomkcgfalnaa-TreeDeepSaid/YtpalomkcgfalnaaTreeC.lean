/- The tree package's methods. -/
import Derived.Test.YtpalomkcgfalnaaPut
import Derived.Outline
set_option linter.unusedVariables false
set_option linter.unusedSimpArgs false
namespace Go.Proofs.Ytpalomkcgfalnaa
open Go Go.RowKit Sh
theorem tlen_any (t : Tr) (p : Value) (d : Int) (w : World) (h : At w w.heap.size t p) :
    Calls Try.prog 25 #[.agg #[p, .int .i64 d]] w fun e w' => e = .returned (.int .i64 (t.len : Int)) ∧ Below w.heap.size w w' := by
  have ha := (h.below ((Below.refl w.heap.size w).alloc (Nat.le_refl _) (.cells #[p, .int .i64 d] 40)))
  go_enter Try.func25, Try.ntmps25
  go_wp2_with fail
  refine (len_any t p _ _ ha).mono ?_
  rintro e w' ⟨rfl, rfl⟩
  go_wp2_with fail
  go_ret
  exact ⟨rfl, (Below.refl _ _).alloc (Nat.le_refl _) _⟩
theorem troot_any (t : Tr) (p : Value) (d : Int) (w : World) (h : At w w.heap.size t p) :
    Calls Try.prog 23 #[.agg #[p, .int .i64 d]] w fun e w' => e = .returned (A8 t.root) ∧ Below w.heap.size w w' := by
  have hl := Tr.root_length t
  go_enter Try.func23, Try.ntmps23
  go_wp2_with fail
  obtain ⟨w0, hw0⟩ : ∃ x, x = (w.alloc (Obj.cells #[p, .int .i64 d] 40)).alloc (Obj.cells (c8 (z8 32)).toArray 25) := ⟨_, rfl⟩
  rw [← hw0]
  have B0 : Below w.heap.size w w0 := by rw [hw0]; exact ((Below.refl _ _).alloc (Nat.le_refl _) _).alloc (by simp) _
  have R0 : Bk w0 (w.heap.size + 1) 25 (c8 (z8 32)) := by rw [hw0]; simpa using Bk.new (w.alloc (Obj.cells #[p, .int .i64 d] 40)) 25 (c8 (z8 32))
  clear hw0
  refine (root_any t p w0 ((h.below B0).more B0.size)).mono ?_
  rintro e w1 ⟨rfl, h1⟩
  have R1 := R0.below h1 R0.lt
  have B1 := below_two B0 h1 B0.size
  have hcan : canAt w1 ⟨w.heap.size + 1, 0, none⟩ 32 = true := R1.can (by simp)
  go_wp2_with fail
  exact bodyPost_ret (results_row rfl _ _ _ _ _ _ rfl (R1.puts (vs := c8 t.root) (by simp [hl])) Try.underlying25 rfl (by simp [info_h32, hl])) rfl ⟨rfl, below_putAt B1 (by simp) _⟩
set_option maxRecDepth 100000 in
set_option maxHeartbeats 1000000 in
theorem tput_any (k v : List UInt8) (hk : k.length = 32) (hv : v.length = 32) (d : Nat) (t : Tr) (P : Nat → Bool) (p : Value) (w : World) (hd : d ≤ 256) (ha : ∀ i, i < d → kbit k i = P i) (ok : Ok d P t) (hlen : t.len ≤ 1000000000000) (h : At w w.heap.size t p) :
    Calls Try.prog 22 #[.agg #[p, .int .i64 (d : Int)], A8 k, A8 v] w fun e w' => ∃ q, e = .returned (.agg #[q, .int .i64 (d : Int)]) ∧ At w' w'.heap.size (ins k v (256 - d) d t) q ∧ Below w.heap.size w w' := by
  obtain ⟨ap, rfl⟩ := h.form
  go_enter Try.func22, Try.ntmps22
  go_wp2_with fail
  obtain ⟨w0, hw0⟩ : ∃ x, x = ((((w.alloc (Obj.cells #[.pointer ap, .int .i64 (d : Int)] 40)).alloc (Obj.cells (c8 k).toArray 25)).alloc (Obj.cells (c8 v).toArray 25)).alloc (Obj.cells #[.pointer none, .int .i64 0] 40)) := ⟨_, rfl⟩
  rw [← hw0]
  have B0 : Below w.heap.size w w0 := by rw [hw0]; exact ((((Below.refl _ _).alloc (Nat.le_refl _) _).alloc (by simp) _).alloc (by simp; omega) _).alloc (by simp; omega) _
  have T0 : Bk w0 w.heap.size 40 [.pointer ap, .int .i64 (d : Int)] := by rw [hw0]; exact ((((Bk.new w _ [.pointer ap, .int .i64 (d : Int)]).alloc _).alloc _).alloc _)
  have K0 : Bk w0 (w.heap.size + 1) 25 (c8 k) := by rw [hw0]; exact ((by simpa using Bk.new (w.alloc (Obj.cells #[.pointer ap, .int .i64 (d : Int)] 40)) 25 (c8 k) : Bk _ _ _ _).alloc _).alloc _
  have V0 : Bk w0 (w.heap.size + 1 + 1) 25 (c8 v) := by rw [hw0]; exact ((by simpa using Bk.new ((w.alloc (Obj.cells #[.pointer ap, .int .i64 (d : Int)] 40)).alloc (Obj.cells (c8 k).toArray 25)) 25 (c8 v) : Bk _ _ _ _).alloc _)
  have R0 : Bk w0 (w.heap.size + 1 + 1 + 1) 40 [.pointer none, .int .i64 0] := by rw [hw0]; simpa using Bk.new (((w.alloc (Obj.cells #[.pointer ap, .int .i64 (d : Int)] 40)).alloc (Obj.cells (c8 k).toArray 25)).alloc (Obj.cells (c8 v).toArray 25)) 40 [.pointer none, .int .i64 0]
  clear hw0
  have z0 := R0.lt
  refine wp_hoist (A := ?A) (fun W => Below (w.heap.size + 1 + 1 + 1) w0 W) [0, 1, 2, 3, 4, 5, 7, 8] [6, 9, 10] (by kernel_rfl) (by kernel_rfl) (by kernel_rfl) (by kernel_rfl) rfl rfl (by kernel_rfl) (by kernel_rfl) ?hS (fun W hW => ?h) (fun hS => ?t)
  case hS => exact (Below.refl _ _).drew
  case h =>
    have r1 := (K0.below hW (by omega)).rows
    have r2 := (V0.below hW (by omega)).rows
    rw [length_c8, hk] at r1
    rw [length_c8, hv] at r2
    have T1 := T0.below hW (by omega)
    have c0 : W.cell? ⟨w.heap.size, 0, none⟩ = some (.pointer ap) := T1.at_ rfl
    have c1 : W.cell? ⟨w.heap.size, 1, none⟩ = some (.int .i64 (d : Int)) := T1.at_ rfl
    clear T1
    simp only [pick, List.getElem?_cons_zero, List.getElem?_cons_succ]
    repeat (go_big_quiet_step (fail))
    refine wpQuiet_nil ?_
    rfl
  case t =>
    simp only [pick, List.getElem?_cons_zero, List.getElem?_cons_succ]
    refine wpTail_step (by rfl) (fun Q' hQ' => ?_)
    go_wp2_with fail
    have hat : At w0.drew w0.drew.heap.size t (.pointer ap) := (h.below B0.drew).more B0.drew.size
    refine (put_any k v hk hv (256 - d) d t P _ _ w0.drew (by omega) rfl ha ok hlen hat).mono ?_
    rintro e w1 ⟨q, rfl, hq, h1⟩
    obtain ⟨aq, rfl⟩ := hq.form
    have R1 := R0.drew.below h1 z0
    have B1 := below_two B0.drew h1 B0.drew.size
    have S1 : Below (w.heap.size + 1 + 1 + 1) w0 w1 := (Below.refl _ _).drew.trans (h1.mono (by simp; omega))
    go_wp2_with fail
    refine hQ' _ _ S1 ?_
    clear hQ'
    refine wpTail_step (by rfl) (fun Q' hQ' => ?_)
    go_wp2_with fail
    refine hQ' _ _ S1 ?_
    clear hQ'
    have f0 := R1.at_ (i := 0) rfl
    have f1 := R1.at_ (i := 1) rfl
    have g0 := R1.frozen 0
    have g1 := R1.frozen 1
    refine wpTail_step (by rfl) (fun Q' hQ' => ?_)
    go_wp2_with fail
    have R2 := (R1.set_ 0 (.pointer aq)).set_ 1 (.int .i64 (d : Int))
    have B2 : Below w.heap.size w ((w1.setCell ⟨w.heap.size + 1 + 1 + 1, 0, none⟩ (.pointer aq)).setCell ⟨w.heap.size + 1 + 1 + 1, 1, none⟩ (.int .i64 (d : Int))) := (B1.setCell (by simp; omega) _).setCell (by simp; omega) _
    have hq2 := (hq.set_ R1 (by decide) 0 (.pointer aq)).set_ (R1.set_ 0 (.pointer aq)) (by decide) 1 (.int .i64 (d : Int))
    refine hQ' _ _ ((S1.setCell (by simp) _).setCell (by simp) _) ?_
    refine wpTail_nil ?_
    go_wp2_with fail
    exact bodyPost_ret (results_row rfl _ _ _ _ _ _ rfl R2 Try.underlying40 rfl (by kernel_rfl)) rfl ⟨_, rfl, hq2.more (by simp), B2⟩
end Go.Proofs.Ytpalomkcgfalnaa
