/- The tree package's methods Sides and Leaf. -/
import Derived.Test.YtpalomkcgfalnaaTreeC
import Derived.Test.YtpalomkcgfalnaaRet
import Derived.Outline
set_option linter.unusedVariables false
set_option linter.unusedSimpArgs false
namespace Go.Proofs.Ytpalomkcgfalnaa
open Go Go.RowKit Sh
set_option maxRecDepth 100000 in
set_option maxHeartbeats 1000000 in
theorem tsides_no (t : Tr) (p : Value) (d : Int) (w : World) (h : At w w.heap.size t p) (hl : t.len < 2) :
    Calls Try.prog 26 #[.agg #[p, .int .i64 d]] w fun e w' => e = .returned (.tuple #[.agg #[.pointer none, .int .i64 0], .agg #[.pointer none, .int .i64 0], .bool false]) ∧ Below w.heap.size w w' := by
  obtain ⟨ap, rfl⟩ := h.form
  have hlt : decide ((t.len : Int) < 2) = true := decide_eq_true (by omega)
  go_enter Try.func26, Try.ntmps26
  go_wp2_with fail
  obtain ⟨w0, hw0⟩ : ∃ x, x = ((w.alloc (Obj.cells #[.pointer ap, .int .i64 d] 40)).alloc (Obj.cells #[.pointer none, .int .i64 0] 40)).alloc (Obj.cells #[.pointer none, .int .i64 0] 40) := ⟨_, rfl⟩
  rw [← hw0]
  have B0 : Below w.heap.size w w0 := by rw [hw0]; exact (((Below.refl _ _).alloc (Nat.le_refl _) _).alloc (by simp) _).alloc (by simp; omega) _
  have L0 : Bk w0 (w.heap.size + 1) 40 [.pointer none, .int .i64 0] := by rw [hw0]; exact (by simpa using Bk.new (w.alloc (Obj.cells #[.pointer ap, .int .i64 d] 40)) 40 [.pointer none, .int .i64 0] : Bk _ _ _ _).alloc _
  have R0 : Bk w0 (w.heap.size + 1 + 1) 40 [.pointer none, .int .i64 0] := by rw [hw0]; simpa using Bk.new ((w.alloc (Obj.cells #[.pointer ap, .int .i64 d] 40)).alloc (Obj.cells #[.pointer none, .int .i64 0] 40)) 40 [.pointer none, .int .i64 0]
  clear hw0
  refine (tlen_any t _ d w0 ((h.below B0).more B0.size)).mono ?_
  rintro e w1 ⟨rfl, h1⟩
  have L1 := L0.below h1 L0.lt
  have R1 := R0.below h1 R0.lt
  have B1 := below_two B0 h1 B0.size
  have f0 := L1.at_ (i := 0) rfl
  have f1 := L1.at_ (i := 1) rfl
  have g0 := L1.frozen 0
  have g1 := L1.frozen 1
  have f2 := R1.at_ (i := 0) rfl
  have f3 := R1.at_ (i := 1) rfl
  have g2 := R1.frozen 0
  have g3 := R1.frozen 1
  clear h1 h
  go_wp2_with fail
  have L2 := (((L1.set_ 0 (.pointer none)).set_ 1 (.int .i64 0)).far (p := ⟨w.heap.size + 1 + 1, 0, none⟩) (by simp) (.pointer none)).far (p := ⟨w.heap.size + 1 + 1, 1, none⟩) (by simp) (.int .i64 0)
  have R2 := (((R1.far (p := ⟨w.heap.size + 1, 0, none⟩) (by simp) (.pointer none)).far (p := ⟨w.heap.size + 1, 1, none⟩) (by simp) (.int .i64 0)).set_ 0 (.pointer none)).set_ 1 (.int .i64 0)
  exact bodyPost_ret (results_three rfl (ResAt.row L2 rfl _ Try.underlying40 rfl (by kernel_rfl)) (ResAt.row R2 rfl _ Try.underlying40 rfl (by kernel_rfl)) (ResAt.tmp rfl)) rfl
    ⟨rfl, (((B1.setCell (by simp) _).setCell (by simp) _).setCell (by simp; omega) _).setCell (by simp; omega) _⟩
set_option maxRecDepth 100000 in
set_option maxHeartbeats 1000000 in
theorem tsides_yes (l r : Tr) (p : Value) (d : Nat) (w : World) (h : At w w.heap.size (.nd l r) p) (hl : 2 ≤ l.len + r.len) (hd : d ≤ 256) :
    Calls Try.prog 26 #[.agg #[p, .int .i64 (d : Int)]] w fun e w' => ∃ pl pr, e = .returned (.tuple #[.agg #[pl, .int .i64 ((d : Int) + 1)], .agg #[pr, .int .i64 ((d : Int) + 1)], .bool true]) ∧ At w' w'.heap.size l pl ∧ At w' w'.heap.size r pr ∧ Below w.heap.size w w' := by
  have hat := h
  obtain ⟨g, pl, pr, rfl, hg, hb, hatl, hatr⟩ := h
  obtain ⟨al, rfl⟩ := hatl.form
  obtain ⟨ar, rfl⟩ := hatr.form
  have hlt : decide (((Tr.nd l r).len : Int) < 2) = false := by simp only [Tr.len]; exact decide_eq_false (by omega)
  go_enter Try.func26, Try.ntmps26
  go_wp2_with fail
  obtain ⟨w0, hw0⟩ : ∃ x, x = ((w.alloc (Obj.cells #[.pointer (some ⟨g, 0, none⟩), .int .i64 (d : Int)] 40)).alloc (Obj.cells #[.pointer none, .int .i64 0] 40)).alloc (Obj.cells #[.pointer none, .int .i64 0] 40) := ⟨_, rfl⟩
  rw [← hw0]
  have B0 : Below w.heap.size w w0 := by rw [hw0]; exact (((Below.refl _ _).alloc (Nat.le_refl _) _).alloc (by simp) _).alloc (by simp; omega) _
  have T0 : Bk w0 w.heap.size 40 [.pointer (some ⟨g, 0, none⟩), .int .i64 (d : Int)] := by rw [hw0]; exact ((Bk.new w _ [.pointer (some ⟨g, 0, none⟩), .int .i64 (d : Int)]).alloc _).alloc _
  have L0 : Bk w0 (w.heap.size + 1) 40 [.pointer none, .int .i64 0] := by rw [hw0]; exact (by simpa using Bk.new (w.alloc (Obj.cells #[.pointer (some ⟨g, 0, none⟩), .int .i64 (d : Int)] 40)) 40 [.pointer none, .int .i64 0] : Bk _ _ _ _).alloc _
  have R0 : Bk w0 (w.heap.size + 1 + 1) 40 [.pointer none, .int .i64 0] := by rw [hw0]; simpa using Bk.new ((w.alloc (Obj.cells #[.pointer (some ⟨g, 0, none⟩), .int .i64 (d : Int)] 40)).alloc (Obj.cells #[.pointer none, .int .i64 0] 40)) 40 [.pointer none, .int .i64 0]
  clear hw0
  refine (tlen_any (.nd l r) _ (d : Int) w0 ((hat.below B0).more B0.size)).mono ?_
  rintro e w1 ⟨rfl, h1⟩
  have T1 := T0.below h1 T0.lt
  have L1 := L0.below h1 L0.lt
  have R1 := R0.below h1 R0.lt
  have B1 := below_two B0 h1 B0.size
  have N1 := hb.below B1 hg
  have hal := hatl.below B1
  have har := hatr.below B1
  have c0 : w1.cell? ⟨w.heap.size, 0, none⟩ = some (.pointer (some ⟨g, 0, none⟩)) := T1.at_ rfl
  have c1 : w1.cell? ⟨w.heap.size, 1, none⟩ = some (.int .i64 (d : Int)) := T1.at_ rfl
  have hl' := node_left N1 (length_z8 32) (length_z8 32)
  have hr' := node_right N1 (length_z8 32) (length_z8 32)
  have f0 := L1.at_ (i := 0) rfl
  have f1 := L1.at_ (i := 1) rfl
  have g0 := L1.frozen 0
  have g1 := L1.frozen 1
  have f2 := R1.at_ (i := 0) rfl
  have f3 := R1.at_ (i := 1) rfl
  have g2 := R1.frozen 0
  have g3 := R1.frozen 1
  have z1 := R1.lt
  clear h1 hat hatl hatr hb N1 T1 T0 L0 R0 B0
  go_wp2_with fail
  refine wp_hoist (A := ?A) (fun W => Below (w.heap.size + 1) w1 W) [0, 1, 2, 3, 4, 5, 6, 7, 8, 9, 10, 11, 12, 13, 14, 15, 16, 17] [18, 19, 20] (by kernel_rfl) (by kernel_rfl) (by kernel_rfl) (by kernel_rfl) rfl rfl (by kernel_rfl) (by kernel_rfl) ?hS (fun W hW => ?h) (fun hS => ?t)
  case hS => exact (Below.refl _ _).drew
  case h =>
    have c0 := (hW.cell (p := ⟨w.heap.size, 0, none⟩) (by simp)).trans c0
    have c1 := (hW.cell (p := ⟨w.heap.size, 1, none⟩) (by simp)).trans c1
    have hl' := (hW.cell (p := ⟨g, 64, none⟩) (by simp; omega)).trans hl'
    have hr' := (hW.cell (p := ⟨g, 65, none⟩) (by simp; omega)).trans hr'
    simp only [pick, List.getElem?_cons_zero, List.getElem?_cons_succ]
    repeat (go_big_quiet_step (fail))
    refine wpQuiet_nil ?_
    rfl
  case t =>
    simp only [pick, List.getElem?_cons_zero, List.getElem?_cons_succ]
    have S1 : Below (w.heap.size + 1) w1 w1.drew := (Below.refl _ _).drew
    refine wpTail_step (by rfl) (fun Q' hQ' => ?_)
    go_wp2_with fail
    have S2 := (S1.setCell (p := ⟨w.heap.size + 1, 0, none⟩) (by simp) (.pointer al)).setCell (p := ⟨w.heap.size + 1, 1, none⟩) (by simp) (.int .i64 ((d : Int) + 1))
    refine hQ' _ _ S2 ?_
    clear hQ'
    refine wpTail_step (by rfl) (fun Q' hQ' => ?_)
    go_wp2_with fail
    have S3 := (S2.setCell (p := ⟨w.heap.size + 1 + 1, 0, none⟩) (by simp) (.pointer ar)).setCell (p := ⟨w.heap.size + 1 + 1, 1, none⟩) (by simp) (.int .i64 ((d : Int) + 1))
    refine hQ' _ _ S3 ?_
    clear hQ'
    refine wpTail_step (by rfl) (fun Q' hQ' => ?_)
    go_wp2_with fail
    refine hQ' _ _ S3 ?_
    clear hQ'
    refine wpTail_nil ?_
    go_wp2_with fail
    have La := L1.drew.set_ 0 (.pointer al)
    have Lb := La.set_ 1 (.int .i64 ((d : Int) + 1))
    have Lc := Lb.far (p := ⟨w.heap.size + 1 + 1, 0, none⟩) (by simp) (.pointer ar)
    have Ld := Lc.far (p := ⟨w.heap.size + 1 + 1, 1, none⟩) (by simp) (.int .i64 ((d : Int) + 1))
    have Ra := R1.drew.far (p := ⟨w.heap.size + 1, 0, none⟩) (by simp) (.pointer al)
    have Rb := Ra.far (p := ⟨w.heap.size + 1, 1, none⟩) (by simp) (.int .i64 ((d : Int) + 1))
    have Rc := Rb.set_ 0 (.pointer ar)
    have Rd := Rc.set_ 1 (.int .i64 ((d : Int) + 1))
    have X : ∀ {t : Tr} {p : Value}, At w1 w.heap.size t p → At ((((w1.drew.setCell ⟨w.heap.size + 1, 0, none⟩ (.pointer al)).setCell ⟨w.heap.size + 1, 1, none⟩ (.int .i64 ((d : Int) + 1))).setCell ⟨w.heap.size + 1 + 1, 0, none⟩ (.pointer ar)).setCell ⟨w.heap.size + 1 + 1, 1, none⟩ (.int .i64 ((d : Int) + 1))) w1.heap.size t p := fun h => (h.below (S3.mono (by omega))).more B1.size
    exact bodyPost_ret (results_three rfl (ResAt.row Ld rfl _ Try.underlying40 rfl (by kernel_rfl)) (ResAt.row Rd rfl _ Try.underlying40 rfl (by kernel_rfl)) (ResAt.tmp rfl)) rfl
      ⟨_, _, rfl, (X hal).more (by simp), (X har).more (by simp), B1.trans (S3.mono (by omega))⟩
end Go.Proofs.Ytpalomkcgfalnaa
