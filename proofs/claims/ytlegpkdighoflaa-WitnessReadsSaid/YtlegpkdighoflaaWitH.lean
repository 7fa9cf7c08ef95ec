/- witness.Parse: the reader's take, hash, fail. -/
import Derived.Test.YtlegpkdighoflaaWitC
import Derived.Laws.IdiomCopy
set_option linter.unusedVariables false
set_option linter.unusedSimpArgs false
namespace Go.Proofs.Ytlegpkdighoflaa
open Go Go.RowKit Sh
def badF (b : Bool) (bad : Int) : Int := if b && (bad == 0) then 13 else bad
/-- The reader in block g has these bytes left, and this fault. -/
def Rdr (w : World) (g : Nat) (l : List UInt8) (bad : Int) : Prop := ∃ v, Bk w g 55 [v, .int .i64 bad] ∧ By w 0 g v l
theorem Rdr.lt {w : World} {g : Nat} {l : List UInt8} {bad : Int} (h : Rdr w g l bad) : g < w.heap.size := let ⟨_, h1, _⟩ := h; h1.lt
theorem By.grown {w w' : World} {lo g : Nat} {v : Value} {l : List UInt8} (h : By w lo g v l) (hg : w.grownBy w' (some g)) (hl : g ≤ w.heap.size) : By w' lo g v l :=
  h.below ((Below.refl _ _).grown hg hl (fun k hk => by injection hk with hk; omega))
theorem Rdr.below {w w' : World} {g B : Nat} {l : List UInt8} {bad : Int} (h : Rdr w g l bad) (hb : Below B w w') (hB : g < B) : Rdr w' g l bad :=
  let ⟨v, h1, h2⟩ := h; ⟨v, h1.below hb hB, h2.below (hb.mono (by omega))⟩
theorem grown_of_below {w w' : World} (hb : Below w.heap.size w w') (g : Nat) : w.grownBy w' (some g) := ⟨hb.os, hb.tape, hb.output, hb.size, fun k hk _ => hb.block k hk⟩
theorem grown_setc (w : World) (g o : Nat) (u : Value) : w.grownBy (w.setCell ⟨g, o, none⟩ u) (some g) := ⟨by simp [World.setCell], by simp [World.setCell], by simp [World.setCell], by simp [World.setCell], fun k hk hne => Below.heap_setCell w _ u k (fun e => hne (by rw [e]))⟩
theorem grown_put_new {w W : World} {g : Nat} (h : w.grownBy W (some g)) {b : Nat} (hb : w.heap.size ≤ b) (o : Nat) (vs : List Value) : w.grownBy (putAt W ⟨b, o, none⟩ vs) (some g) := by
  have h2 := below_putAt (a := ⟨b, o, none⟩) (Below.refl 0 W) (Nat.zero_le _) vs
  exact ⟨h2.os.trans h.os, h2.tape.trans h.tape, h2.output.trans h.output, Nat.le_trans h.size h2.size, fun k hk hne => (heap_setCells _ _ _ _ _ (show k ≠ b by omega)).trans (h.block k hk hne)⟩
theorem Rdr.putFar {w : World} {g : Nat} {l : List UInt8} {bad : Int} (h : Rdr w g l bad) {a : Addr} (ha : g < a.block) (vs : List Value) : Rdr (putAt w a vs) g l bad :=
  let ⟨v, h1, h2⟩ := h; ⟨v, h1.putFar (by omega) vs, h2.below (below_putAt (Below.refl _ _) (by omega) vs)⟩
section
variable (g : Nat) (l : List UInt8) (w : World)
theorem take_bad (bad : Int) (hb : bad ≠ 0) (n : Nat) (h : Rdr w g l bad) :
    Calls Try.prog 29 #[.pointer (some ⟨g, 0, none⟩), .int .i64 (n : Int)] w fun e w' => e = .returned (.slice none 0 0) ∧ w' = w := by
  obtain ⟨v, K, hy⟩ := h
  have c1 : w.cell? ⟨g, 1, none⟩ = some (.int .i64 bad) := K.at_ rfl
  have hne : (bad == 0) = false := beq_eq_false_iff_ne.2 hb
  go_enter Try.func29, Try.ntmps29
  go_wp2_with fail
  go_ret
  exact ⟨rfl, rfl⟩
theorem take_short (n : Nat) (hn : l.length < n) (hn2 : n ≤ 1099511627776) (h : Rdr w g l 0) :
    Calls Try.prog 29 #[.pointer (some ⟨g, 0, none⟩), .int .i64 (n : Int)] w fun e w' => e = .returned (.slice none 0 0) ∧ Rdr w' g l 10 ∧ w.grownBy w' (some g) := by
  obtain ⟨v, K, hy⟩ := h
  obtain ⟨A, c, rfl, hc1, hc2, hrd⟩ := hy.open_
  have c0 : w.cell? ⟨g, 0, none⟩ = some (.slice A l.length c) := K.at_ rfl
  have c1 : w.cell? ⟨g, 1, none⟩ = some (.int .i64 0) := K.at_ rfl
  have f1 := K.frozen 1
  have hlt : decide ((l.length : Int) < (n : Int)) = true := decide_eq_true (by omega)
  have K2 : Bk (w.setCell ⟨g, 1, none⟩ (.int .i64 10)) g 55 [.slice A l.length c, .int .i64 10] := K.set_ 1 _
  have c2 : (w.setCell ⟨g, 1, none⟩ (.int .i64 10)).cell? ⟨g, 1, none⟩ = some (.int .i64 10) := K2.at_ rfl
  have G := grown_setc w g 1 (.int .i64 10)
  have H : Rdr (w.setCell ⟨g, 1, none⟩ (.int .i64 10)) g l 10 := ⟨_, K2, hy.grown G (Nat.le_of_lt K.lt)⟩
  go_enter Try.func29, Try.ntmps29
  go_wp2_with fail
  go_ret
  exact ⟨rfl, H, G⟩
theorem take_ok (n : Nat) (hn : n ≤ l.length) (h : Rdr w g l 0) :
    Calls Try.prog 29 #[.pointer (some ⟨g, 0, none⟩), .int .i64 (n : Int)] w fun e w' => ∃ v, e = .returned v ∧ By w' 0 g v (l.take n) ∧ Rdr w' g (l.drop n) 0 ∧ w.grownBy w' (some g) := by
  obtain ⟨v, K, hy⟩ := h
  obtain ⟨A, c, rfl, hc1, hc2, hrd⟩ := hy.open_
  have c0 : w.cell? ⟨g, 0, none⟩ = some (.slice A l.length c) := K.at_ rfl
  have c1 : w.cell? ⟨g, 1, none⟩ = some (.int .i64 0) := K.at_ rfl
  have f0 := K.frozen 0
  have hlt : decide ((l.length : Int) < (n : Int)) = false := decide_eq_false (by omega)
  have hlt2 : ¬ (l.length : Int) < (n : Int) := by omega
  have hn0 : 0 ≤ (n : Int) := by omega
  have hnl : (n : Int) ≤ (l.length : Int) := by omega
  have hnc : (n : Int) ≤ (c : Int) := by omega
  have hd := hy.drops (k := n) hn
  have ht := hy.takes (k := n) hn
  have hll : (l.drop n).length = l.length - n := by simp
  have fin : ∀ u, By w 0 g u (l.drop n) → By (w.setCell ⟨g, 0, none⟩ u) 0 g (.slice A n c) (l.take n) ∧ Rdr (w.setCell ⟨g, 0, none⟩ u) g (l.drop n) 0 ∧ w.grownBy (w.setCell ⟨g, 0, none⟩ u) (some g) := fun u hu =>
    ⟨ht.grown (grown_setc _ _ _ _) (Nat.le_of_lt K.lt), ⟨u, K.set_ 0 u, hu.grown (grown_setc _ _ _ _) (Nat.le_of_lt K.lt)⟩, grown_setc _ _ _ _⟩
  by_cases hcn : c = n
  · rw [if_pos hcn] at hd
    subst hcn
    simp only [Nat.sub_self, show l.length - c = 0 by omega] at hd
    go_enter Try.func29, Try.ntmps29
    go_wp2_with fail
    go_ret
    exact ⟨_, rfl, fin _ hd⟩
  · rw [if_neg hcn] at hd
    go_enter Try.func29, Try.ntmps29
    go_wp2_with fail
    go_ret
    exact ⟨_, rfl, fin _ hd⟩
theorem fail_any (bad : Int) (b : Bool) (h : Rdr w g l bad) :
    Calls Try.prog 31 #[.pointer (some ⟨g, 0, none⟩), .bool b] w fun e w' => e = .returned (.tuple #[]) ∧ Rdr w' g l (badF b bad) ∧ w.grownBy w' (some g) := by
  obtain ⟨v, K, hy⟩ := h
  have c1 : w.cell? ⟨g, 1, none⟩ = some (.int .i64 bad) := K.at_ rfl
  have f1 := K.frozen 1
  cases b with
  | false =>
    go_enter Try.func31, Try.ntmps31
    go_wp2_with fail
    refine bodyPost_end (results_none rfl _ _ _) rfl ?_
    exact ⟨rfl, ⟨v, K, hy⟩, World.grownBy.refl w _⟩
  | true =>
    by_cases hb : bad = 0
    · subst hb
      go_enter Try.func31, Try.ntmps31
      go_wp2_with fail
      refine bodyPost_end (results_none rfl _ _ _) rfl ?_
      exact ⟨rfl, ⟨v, K.set_ 1 _, hy.grown (grown_setc _ _ _ _) (Nat.le_of_lt K.lt)⟩, grown_setc _ _ _ _⟩
    · have hne : (bad == 0) = false := beq_eq_false_iff_ne.2 hb
      go_enter Try.func31, Try.ntmps31
      go_wp2_with fail
      refine bodyPost_end (results_none rfl _ _ _) rfl ?_
      have e : badF true bad = bad := by simp [badF, hb]
      rw [e]
      exact ⟨rfl, ⟨v, K, hy⟩, World.grownBy.refl w _⟩
set_option maxRecDepth 100000 in
theorem hash_none (bad bad' : Int) (hbad : (bad ≠ 0 ∧ bad' = bad) ∨ (bad = 0 ∧ l.length < 32 ∧ bad' = 10)) (h : Rdr w g l bad) :
    Calls Try.prog 30 #[.pointer (some ⟨g, 0, none⟩)] w fun e w' => e = .returned (A8 (z8 32)) ∧ Rdr w' g l bad' ∧ w.grownBy w' (some g) := by
  obtain ⟨W0, hW0⟩ : ∃ x, x = (w.alloc (Obj.cells (c8 (z8 32)).toArray 24)).alloc (Obj.cells (c8 (z8 32)).toArray 24) := ⟨_, rfl⟩
  have B0 : Below w.heap.size w W0 := by rw [hW0]; exact ((Below.refl _ _).alloc (Nat.le_refl _) _).alloc (by simp) _
  have R0 : Bk W0 w.heap.size 24 (c8 (z8 32)) := by rw [hW0]; exact (Bk.new w _ _).alloc _
  have H0 : Bk W0 (w.heap.size + 1) 24 (c8 (z8 32)) := by rw [hW0]; simpa using Bk.new (w.alloc (Obj.cells (c8 (z8 32)).toArray 24)) 24 (c8 (z8 32))
  have zg := h.lt
  have hr := h.below B0 zg
  have hcall : Calls Try.prog 29 #[.pointer (some ⟨g, 0, none⟩), .int .i64 ((32 : Nat) : Int)] W0.drew fun e w' => e = .returned (.slice none 0 0) ∧ Rdr w' g l bad' ∧ W0.drew.grownBy w' (some g) := by
    rcases hbad with ⟨hb, rfl⟩ | ⟨rfl, hl, rfl⟩
    · exact (take_bad g l W0.drew bad' hb 32 hr).mono fun e w' ⟨h1, h2⟩ => ⟨h1, by rw [h2]; exact hr, by rw [h2]; exact World.grownBy.refl _ _⟩
    · exact take_short g l W0.drew 32 hl (by omega) hr
  clear hbad
  go_enter Try.func30, Try.ntmps30
  go_wp2_with fail
  rw [← hW0]
  clear hW0
  have B0d : Below w.heap.size w W0.drew := B0.drew
  have z0 : W0.drew.heap.size = W0.heap.size := rfl
  refine held_begin (fun W => True) (by kernel_rfl) ?_
  refine held_quiet (A := ?A1) [0, 1] (by kernel_rfl) (by kernel_rfl) rfl (by kernel_rfl) (by kernel_rfl) trivial (h := fun W hW => ?h1) (hr := ?r1)
  case h1 =>
    simp only [pick, List.getElem?_cons_zero, List.getElem?_cons_succ]
    repeat (go_big_quiet_step (fail))
    refine wpQuiet_nil ?_
    rfl
  case r1 =>
    refine held_one 2 (by kernel_rfl) (by rfl) (by rfl) (fun Q' hQ' => ?_)
    dsimp only [bare]
    go_wp2_with fail
    refine hcall.mono ?_
    rintro e w1 ⟨rfl, hr1, hg1⟩
    have H1 := H0.drew.grown (w' := w1) (row := some g) hg1 (fun e => by injection e with e; have := H0.lt; omega)
    have R1 := R0.drew.grown (w' := w1) (row := some g) hg1 (fun e => by injection e with e; omega)
    go_wp2_with fail
    refine hQ' _ _ trivial ?_
    clear hQ'
    refine held_one 3 (by kernel_rfl) (by rfl) (by rfl) (fun Q' hQ' => ?_)
    dsimp only [bare]
    have hcp : ∀ ty, (Builtin.copy_ #[22, 22] ty #[.slice (some ⟨w.heap.size + 1, 0, none⟩) 32 32, .slice none 0 0]).run Try.prog w1 = .ok (goInt 0) w1 := fun ty => run_copy_none w1 _ _ ty 5 _ _ _ _ _ _ Try.underlying22 (by kernel_rfl) (by decide)
    go_wp2_with fail
    refine hQ' _ _ trivial ?_
    clear hQ' hcp
    refine held_end (by kernel_rfl) ?_
    have hrow : rowAt w1 ⟨w.heap.size + 1, 0, none⟩ 32 = some (c8 (z8 32)) := by have := H1.rows; rwa [length_c8, length_z8] at this
    have hcan : canAt w1 ⟨w.heap.size, 0, none⟩ 32 = true := R1.can (by simp)
    go_wp2_with fail
    refine bodyPost_ret (results_row rfl _ _ _ _ _ _ rfl (R1.puts (vs := c8 (z8 32)) (by simp)) Try.underlying24 rfl (by simp [info_h32])) rfl ⟨rfl, hr1.putFar zg _, ?_⟩
    exact grown_put_new ((grown_of_below B0d g).trans hg1) (Nat.le_refl _) _ _
set_option maxRecDepth 100000 in
theorem hash_ok (hl : 32 ≤ l.length) (h : Rdr w g l 0) :
    Calls Try.prog 30 #[.pointer (some ⟨g, 0, none⟩)] w fun e w' => e = .returned (A8 (l.take 32)) ∧ Rdr w' g (l.drop 32) 0 ∧ w.grownBy w' (some g) := by
  obtain ⟨W0, hW0⟩ : ∃ x, x = (w.alloc (Obj.cells (c8 (z8 32)).toArray 24)).alloc (Obj.cells (c8 (z8 32)).toArray 24) := ⟨_, rfl⟩
  have B0 : Below w.heap.size w W0 := by rw [hW0]; exact ((Below.refl _ _).alloc (Nat.le_refl _) _).alloc (by simp) _
  have R0 : Bk W0 w.heap.size 24 (c8 (z8 32)) := by rw [hW0]; exact (Bk.new w _ _).alloc _
  have H0 : Bk W0 (w.heap.size + 1) 24 (c8 (z8 32)) := by rw [hW0]; simpa using Bk.new (w.alloc (Obj.cells (c8 (z8 32)).toArray 24)) 24 (c8 (z8 32))
  have zg := h.lt
  have hr := h.below B0 zg
  have hcall := take_ok g l W0.drew 32 hl hr
  have hl32 : (l.take 32).length = 32 := by simp; omega
  generalize hx : l.take 32 = x at *
  clear hx
  generalize l.drop 32 = rest at *
  go_enter Try.func30, Try.ntmps30
  go_wp2_with fail
  rw [← hW0]
  clear hW0
  have B0d : Below w.heap.size w W0.drew := B0.drew
  have z0 : W0.drew.heap.size = W0.heap.size := rfl
  refine held_begin (fun W => True) (by kernel_rfl) ?_
  refine held_quiet (A := ?A1) [0, 1] (by kernel_rfl) (by kernel_rfl) rfl (by kernel_rfl) (by kernel_rfl) trivial (h := fun W hW => ?h1) (hr := ?r1)
  case h1 =>
    simp only [pick, List.getElem?_cons_zero, List.getElem?_cons_succ]
    repeat (go_big_quiet_step (fail))
    refine wpQuiet_nil ?_
    rfl
  case r1 =>
    refine held_one 2 (by kernel_rfl) (by rfl) (by rfl) (fun Q' hQ' => ?_)
    dsimp only [bare]
    go_wp2_with fail
    refine hcall.mono ?_
    rintro e w1 ⟨u, rfl, hu, hr1, hg1⟩
    have H1 := H0.drew.grown (w' := w1) (row := some g) hg1 (fun e => by injection e with e; have := H0.lt; omega)
    have R1 := R0.drew.grown (w' := w1) (row := some g) hg1 (fun e => by injection e with e; omega)
    go_wp2_with fail
    refine hQ' _ _ trivial ?_
    clear hQ'
    refine held_one 3 (by kernel_rfl) (by rfl) (by rfl) (fun Q' hQ' => ?_)
    dsimp only [bare]
    obtain ⟨gu, ou, cu, rfl, hcu, hcu2, _, hgu, hcell⟩ := hu.row (by omega)
    rw [hl32]
    have hcp : ∀ ty, (Builtin.copy_ #[22, 22] ty #[.slice (some ⟨w.heap.size + 1, 0, none⟩) 32 32, .slice (some ⟨gu, ou, none⟩) 32 cu]).run Try.prog w1 = .ok (goInt 32) (putAt w1 ⟨w.heap.size + 1, 0, none⟩ (c8 x)) := fun ty => by
      have := run_copy_cells (P := Try.prog) w1 22 22 ty 5 (w.heap.size + 1) 0 32 32 ⟨gu, ou, none⟩ 32 cu (c8 x) Try.underlying22 (by kernel_rfl) (by simp [hl32]) (fun j v hj => (rowAt_some hcell).2 j v hj) (fun j hj => by rw [Nat.zero_add, H1.cell]; simp [hl32] at hj; simp [hj]) (fun j hj => H1.frozen _) (by intro u hu; obtain ⟨y, _, rfl⟩ := List.mem_map.1 hu; rfl)
      rw [length_c8, hl32] at this
      exact this
    go_wp2_with fail
    refine hQ' _ _ trivial ?_
    clear hQ' hcp
    refine held_end (by kernel_rfl) ?_
    have H2 := H1.puts (vs := c8 x) (by simp [hl32])
    have R2 := R1.putFar (p := ⟨w.heap.size + 1, 0, none⟩) (by simp) (c8 x)
    have hrow : rowAt (putAt w1 ⟨w.heap.size + 1, 0, none⟩ (c8 x)) ⟨w.heap.size + 1, 0, none⟩ 32 = some (c8 x) := by have := H2.rows; rwa [length_c8, hl32] at this
    have hcan : canAt (putAt w1 ⟨w.heap.size + 1, 0, none⟩ (c8 x)) ⟨w.heap.size, 0, none⟩ 32 = true := R2.can (by simp)
    go_wp2_with fail
    refine bodyPost_ret (results_row rfl _ _ _ _ _ _ rfl (R2.puts (vs := c8 x) (by simp [hl32])) Try.underlying24 rfl (by simp [info_h32, hl32])) rfl ⟨rfl, (hr1.putFar (show g < w.heap.size + 1 by omega) _).putFar zg _, ?_⟩
    exact grown_put_new (grown_put_new ((grown_of_below B0d g).trans hg1) (by omega) _ _) (Nat.le_refl _) _ _
end
end Go.Proofs.Ytlegpkdighoflaa
