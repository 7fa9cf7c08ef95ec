/- witness.Parse. -/
import Derived.Test.YtlegpkdighoflaaWitI
set_option linter.unusedVariables false
set_option linter.unusedSimpArgs false
namespace Go.Proofs.Ytlegpkdighoflaa
open Go Go.RowKit Sh
def parseB (l : List UInt8) : Except Nat Pt := match rd 256 [] l with
  | .error n => .error n
  | .ok (p, []) => .ok p
  | .ok (_, _ :: _) => .error 11
def ParseRes (r : Except Nat Pt) (q : Pt) (n : Int) : Prop := match r with | .ok p => q = p ∧ n = 0 | .error m => q = .e ∧ n = (m : Int)
theorem kbit_zero (i : Nat) : kbit (z8 32) i = false := by
  rw [kbit_test]
  have : g8 (z8 32) (i / 8) = 0 := by
    unfold g8 z8
    rw [List.getD_eq_getElem?_getD, List.getElem?_replicate]
    split <;> rfl
  rw [this]
  simp
set_option maxRecDepth 100000 in
set_option maxHeartbeats 2000000 in
theorem parse_any (v : Value) (l : List UInt8) (w : World) (hv : By w 0 w.heap.size v l) :
    Calls Try.prog 5 #[v] w fun e w' => ∃ (q : Pt) (n : Int), e = .returned (.tuple #[.agg #[q.val], .int .i64 n]) ∧ ParseRes (parseB l) q n ∧ Below w.heap.size w w' := by
  obtain ⟨W0, hW0⟩ : ∃ x, x = (w.alloc (Obj.cells #[.nilIface] 31)).alloc (Obj.cells #[v, .int .i64 0] 55) := ⟨_, rfl⟩
  have B0 : Below w.heap.size w W0 := by rw [hW0]; exact ((Below.refl _ _).alloc (Nat.le_refl _) _).alloc (by simp) _
  have R0 : Bk W0 w.heap.size 31 [.nilIface] := by rw [hW0]; exact (Bk.new w _ [_]).alloc _
  have K0 : Bk W0 (w.heap.size + 1) 55 [v, .int .i64 0] := by rw [hW0]; simpa using Bk.new (w.alloc (Obj.cells #[.nilIface] 31)) 55 [v, .int .i64 0]
  have r0 : Rdr W0 (w.heap.size + 1) l 0 := ⟨v, K0, (hv.below B0).more (by omega)⟩
  have hn := node_any (w.heap.size + 1) 256 [] (z8 32) (by simp) (fun i hi => by rw [kbit_zero]; rfl) rfl l W0 r0
  obtain ⟨A, c, hv1, hc1, hc2, _⟩ := hv.open_
  subst hv1
  go_enter Try.func5, Try.ntmps5
  go_wp2_with fail
  rw [← hW0]
  clear hW0
  refine hn.mono ?_
  rintro e w1 ⟨g1, hN⟩
  obtain ⟨q, l1, bad, rfl, hw, r1, hc⟩ := noderes_cases (way := []) rfl hN
  clear hn hN r0 K0
  have R1 := R0.grown (w' := w1) (row := some (w.heap.size + 1)) g1 (fun e => by injection e with e; omega)
  have B1 : Below w.heap.size w w1 := B0.grown g1 B0.size (fun k hk => by injection hk with hk; omega)
  have HC := Lib.hid hc
  have hbb : 0 ≤ bad := by rcases hc with ⟨rfl, _⟩ | ⟨_, n, _, rfl⟩ <;> omega
  clear hc g1
  obtain ⟨u, K1, hu⟩ := r1
  obtain ⟨A1, cc1, rfl, hcc1, hcc2, _⟩ := hu.open_
  have d0 := K1.at_ (i := 0) rfl
  have d1 := K1.at_ (i := 1) rfl
  have f1 := K1.frozen 1
  have p0 := R1.at_ (i := 0) rfl
  have pf := R1.frozen 0
  by_cases hb : bad = 0
  · subst hb
    by_cases hl : l1 = []
    · subst hl
      have hres : ParseRes (parseB l) q 0 := by
        rcases HC.out with ⟨_, hr⟩ | ⟨h, _⟩
        · unfold ParseRes parseB
          rw [hr]
          exact ⟨rfl, rfl⟩
        · exact absurd rfl h
      rcases q.form with hq | ⟨tq, xq, hq⟩
      · rw [hq]
        go_wp2_with fail
        exact bodyPost_ret (results_two rfl (ResAt.row (R1.set_ 0 .nilIface) rfl _ Try.underlying31 rfl (by kernel_rfl)) (ResAt.tmp rfl)) rfl ⟨q, 0, by rw [hq]; rfl, hres, B1.setCell (by simp) _⟩
      · rw [hq]
        go_wp2_with fail
        exact bodyPost_ret (results_two rfl (ResAt.row (R1.set_ 0 (.iface tq xq)) rfl _ Try.underlying31 rfl (by kernel_rfl)) (ResAt.tmp rfl)) rfl ⟨q, 0, by rw [hq]; rfl, hres, B1.setCell (by simp) _⟩
    · have hlp : 0 < l1.length := List.length_pos_iff.2 hl
      have hgt : decide ((l1.length : Int) > 0) = true := decide_eq_true (by omega)
      have K2 := K1.set_ 1 (.int .i64 11)
      have R2 := R1.far (p := ⟨w.heap.size + 1, 1, none⟩) (by simp) (.int .i64 11)
      have B2 : Below w.heap.size w (w1.setCell ⟨w.heap.size + 1, 1, none⟩ (.int .i64 11)) := B1.setCell (show w.heap.size ≤ w.heap.size + 1 by omega) _
      obtain ⟨W2, hW2⟩ : ∃ x, x = w1.setCell ⟨w.heap.size + 1, 1, none⟩ (.int .i64 11) := ⟨_, rfl⟩
      have e1 := K2.at_ (i := 1) rfl
      rw [← hW2] at K2 R2 B2
      go_wp2_with fail
      rw [← hW2]
      clear hW2 e1 d0 d1 f1 p0 pf K1 R1 B1
      have p1 : W2.drew.cell? ⟨w.heap.size, 0, none⟩ = some .nilIface := R2.at_ rfl
      have pf1 : W2.drew.frozen? ⟨w.heap.size, 0, none⟩ = false := R2.frozen 0
      have S0 : Bk W2.drew (w.heap.size + 1) 55 [.slice A1 l1.length cc1, .int .i64 11] ∧ Bk W2.drew w.heap.size 31 [.nilIface] := ⟨K2.drew, R2.drew⟩
      refine held_begin (fun W => Bk W (w.heap.size + 1) 55 [.slice A1 l1.length cc1, .int .i64 11] ∧ Bk W w.heap.size 31 [.nilIface]) (by kernel_rfl) ?_
      refine held_quiet (A := ?A2) [0, 1, 2, 3, 4] (by kernel_rfl) (by kernel_rfl) rfl (by kernel_rfl) (by kernel_rfl) S0 (h := fun W hW => ?h2) (hr := ?r2)
      case h2 =>
        have d1 := hW.1.at_ (i := 1) rfl
        simp only [pick, List.getElem?_cons_zero, List.getElem?_cons_succ]
        repeat (go_big_quiet_step (fail))
        refine wpQuiet_nil ?_
        rfl
      case r2 =>
        refine held_one 5 (by kernel_rfl) (by rfl) (by rfl) (fun Q' hQ' => ?_)
        dsimp only [bare]
        go_wp2_with fail
        refine hQ' _ _ ⟨S0.1.far (by simp) _, S0.2.set_ 0 .nilIface⟩ ?_
        clear hQ'
        refine held_one 6 (by kernel_rfl) (by rfl) (by rfl) (fun Q' hQ' => ?_)
        dsimp only [bare]
        go_wp2_with fail
        refine hQ' _ _ ⟨S0.1.far (by simp) _, S0.2.set_ 0 .nilIface⟩ ?_
        clear hQ'
        refine held_end (by kernel_rfl) ?_
        go_wp2_with fail
        refine bodyPost_ret (results_two rfl (ResAt.row (S0.2.set_ 0 .nilIface) rfl _ Try.underlying31 rfl (by kernel_rfl)) (ResAt.tmp rfl)) rfl ⟨.e, 11, rfl, ?_, B2.drew.setCell (by simp) _⟩
        rcases HC.out with ⟨_, hr⟩ | ⟨h, _⟩
        · unfold ParseRes parseB
          rw [hr]
          cases l1 with
          | nil => exact absurd rfl hl
          | cons x r => exact ⟨rfl, rfl⟩
        · exact absurd rfl h
  · have hne : (bad == 0) = false := beq_eq_false_iff_ne.2 hb
    have hne2 : (bad != 0) = true := by simp [hb]
    go_wp2_with fail
    have S0 : Bk w1.drew (w.heap.size + 1) 55 [.slice A1 l1.length cc1, .int .i64 bad] ∧ Bk w1.drew w.heap.size 31 [.nilIface] := ⟨K1.drew, R1.drew⟩
    have p1 : w1.drew.cell? ⟨w.heap.size, 0, none⟩ = some .nilIface := p0
    have pf1 : w1.drew.frozen? ⟨w.heap.size, 0, none⟩ = false := pf
    refine held_begin (fun W => Bk W (w.heap.size + 1) 55 [.slice A1 l1.length cc1, .int .i64 bad] ∧ Bk W w.heap.size 31 [.nilIface]) (by kernel_rfl) ?_
    refine held_quiet (A := ?A1) [0, 1, 2, 3, 4] (by kernel_rfl) (by kernel_rfl) rfl (by kernel_rfl) (by kernel_rfl) S0 (h := fun W hW => ?h1) (hr := ?r1)
    case h1 =>
      have d1 := hW.1.at_ (i := 1) rfl
      simp only [pick, List.getElem?_cons_zero, List.getElem?_cons_succ]
      repeat (go_big_quiet_step (fail))
      refine wpQuiet_nil ?_
      rfl
    case r1 =>
      refine held_one 5 (by kernel_rfl) (by rfl) (by rfl) (fun Q' hQ' => ?_)
      dsimp only [bare]
      go_wp2_with fail
      refine hQ' _ _ ⟨S0.1.far (by simp) _, S0.2.set_ 0 .nilIface⟩ ?_
      clear hQ'
      refine held_one 6 (by kernel_rfl) (by rfl) (by rfl) (fun Q' hQ' => ?_)
      dsimp only [bare]
      go_wp2_with fail
      refine hQ' _ _ ⟨S0.1.far (by simp) _, S0.2.set_ 0 .nilIface⟩ ?_
      clear hQ'
      refine held_end (by kernel_rfl) ?_
      go_wp2_with fail
      refine bodyPost_ret (results_two rfl (ResAt.row (S0.2.set_ 0 .nilIface) rfl _ Try.underlying31 rfl (by kernel_rfl)) (ResAt.tmp rfl)) rfl ⟨.e, bad, rfl, ?_, B1.drew.setCell (by simp) _⟩
      rcases HC.out with ⟨h, _⟩ | ⟨_, n, hr, hbn⟩
      · exact absurd h hb
      · unfold ParseRes parseB
        rw [hr]
        exact ⟨rfl, hbn⟩
end Go.Proofs.Ytlegpkdighoflaa
