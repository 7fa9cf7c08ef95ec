/- witanref10: the tape (form, hash). -/
import Derived.Test.YtlegpkdighoflaaWitH
import Derived.Test.YtlegpkdighoflaaMG
set_option linter.unusedVariables false
set_option linter.unusedSimpArgs false
namespace Go.Proofs.Ytlegpkdighoflaa
open Go Go.RowKit Sh
/-- The tape in block g: its bytes, how far it is read, the fault. -/
def Tp (w : World) (g : Nat) (l : List UInt8) (at_ : Nat) (bad : Int) : Prop := ∃ v, Bk w g 59 [v, .int .i64 (at_ : Int), .int .i64 bad] ∧ By w 0 g v l
theorem Tp.lt {w : World} {g : Nat} {l : List UInt8} {a : Nat} {bad : Int} (h : Tp w g l a bad) : g < w.heap.size := let ⟨_, h1, _⟩ := h; h1.lt
theorem Tp.below {w w' : World} {g B : Nat} {l : List UInt8} {a : Nat} {bad : Int} (h : Tp w g l a bad) (hb : Below B w w') (hB : g < B) : Tp w' g l a bad :=
  let ⟨v, h1, h2⟩ := h; ⟨v, h1.below hb hB, h2.below (hb.mono (by omega))⟩
theorem Tp.drewN {w : World} {g : Nat} {l : List UInt8} {a : Nat} {bad : Int} (h : Tp w g l a bad) (n : Nat) : Tp (w.drewN n) g l a bad := h
theorem Tp.putFar {w : World} {g : Nat} {l : List UInt8} {a : Nat} {bad : Int} (h : Tp w g l a bad) {p : Addr} (hp : g < p.block) (vs : List Value) : Tp (putAt w p vs) g l a bad :=
  let ⟨v, h1, h2⟩ := h; ⟨v, h1.putFar (by omega) vs, h2.below (below_putAt (Below.refl _ _) (by omega) vs)⟩
section
variable (g : Nat) (l : List UInt8) (a : Nat) (w : World)
theorem form_any (bad : Int) (b : Bool) (h : Tp w g l a bad) :
    Calls Try.prog 33 #[.pointer (some ⟨g, 0, none⟩), .bool b] w fun e w' => e = .returned (.tuple #[]) ∧ Tp w' g l a (badF b bad) ∧ w.grownBy w' (some g) := by
  obtain ⟨v, K, hy⟩ := h
  have c1 : w.cell? ⟨g, 2, none⟩ = some (.int .i64 bad) := K.at_ rfl
  have f1 := K.frozen 2
  cases b with
  | false =>
    go_enter Try.func33, Try.ntmps33
    go_wp2_with fail
    refine bodyPost_end (results_none rfl _ _ _) rfl ?_
    exact ⟨rfl, ⟨v, K, hy⟩, World.grownBy.refl w _⟩
  | true =>
    by_cases hb : bad = 0
    · subst hb
      go_enter Try.func33, Try.ntmps33
      go_wp2_with fail
      refine bodyPost_end (results_none rfl _ _ _) rfl ?_
      exact ⟨rfl, ⟨v, K.set_ 2 _, hy.grown (grown_setc _ _ _ _) (Nat.le_of_lt K.lt)⟩, grown_setc _ _ _ _⟩
    · have hne : (bad == 0) = false := beq_eq_false_iff_ne.2 hb
      have e : badF true bad = bad := by simp [badF, hb]
      rw [e]
      go_enter Try.func33, Try.ntmps33
      go_wp2_with fail
      refine bodyPost_end (results_none rfl _ _ _) rfl ?_
      exact ⟨rfl, ⟨v, K, hy⟩, World.grownBy.refl w _⟩
set_option maxRecDepth 100000 in
theorem thash_bad (bad : Int) (hb : bad ≠ 0) (h : Tp w g l a bad) :
    Calls Try.prog 32 #[.pointer (some ⟨g, 0, none⟩)] w fun e w' => e = .returned (A8 (z8 32)) ∧ Tp w' g l a bad ∧ w.grownBy w' (some g) := by
  obtain ⟨W0, hW0⟩ : ∃ x, x = (w.alloc (Obj.cells (c8 (z8 32)).toArray 24)).alloc (Obj.cells (c8 (z8 32)).toArray 24) := ⟨_, rfl⟩
  have B0 : Below w.heap.size w W0 := by rw [hW0]; exact ((Below.refl _ _).alloc (Nat.le_refl _) _).alloc (by simp) _
  have R0 : Bk W0 w.heap.size 24 (c8 (z8 32)) := by rw [hW0]; exact (Bk.new w _ _).alloc _
  have H0 : Bk W0 (w.heap.size + 1) 24 (c8 (z8 32)) := by rw [hW0]; simpa using Bk.new (w.alloc (Obj.cells (c8 (z8 32)).toArray 24)) 24 (c8 (z8 32))
  have zg := h.lt
  have h0 := h.below B0 zg
  obtain ⟨v, K, hy⟩ := h0
  have c1 : W0.cell? ⟨g, 2, none⟩ = some (.int .i64 bad) := K.at_ rfl
  have hne : (bad == 0) = false := beq_eq_false_iff_ne.2 hb
  have hne2 : (bad != 0) = true := by simp [hb]
  have hrow : rowAt W0 ⟨w.heap.size + 1, 0, none⟩ 32 = some (c8 (z8 32)) := by have := H0.rows; rwa [length_c8, length_z8] at this
  have hcan : canAt W0 ⟨w.heap.size, 0, none⟩ 32 = true := R0.can (by simp)
  go_enter Try.func32, Try.ntmps32
  go_wp2_with fail
  rw [← hW0]
  clear hW0
  go_quiet (fail)
  go_wp2_with fail
  refine bodyPost_ret (results_row rfl _ _ _ _ _ _ rfl ((R0.drewN _).puts (vs := c8 (z8 32)) (by simp)) Try.underlying24 rfl (by simp [info_h32])) rfl ⟨rfl, Tp.putFar (Tp.drewN ⟨v, K, hy⟩ _) zg _, ?_⟩
  exact grown_put_new (grown_of_below (below_drewN B0 _) g) (Nat.le_refl _) _ _
set_option maxRecDepth 100000 in
theorem thash_short (hl : l.length < a + 32) (hl2 : a ≤ 1000000) (hl3 : l.length ≤ 1000000) (h : Tp w g l a 0) :
    Calls Try.prog 32 #[.pointer (some ⟨g, 0, none⟩)] w fun e w' => e = .returned (A8 (z8 32)) ∧ Tp w' g l a 10 ∧ w.grownBy w' (some g) := by
  obtain ⟨W0, hW0⟩ : ∃ x, x = (w.alloc (Obj.cells (c8 (z8 32)).toArray 24)).alloc (Obj.cells (c8 (z8 32)).toArray 24) := ⟨_, rfl⟩
  have B0 : Below w.heap.size w W0 := by rw [hW0]; exact ((Below.refl _ _).alloc (Nat.le_refl _) _).alloc (by simp) _
  have R0 : Bk W0 w.heap.size 24 (c8 (z8 32)) := by rw [hW0]; exact (Bk.new w _ _).alloc _
  have H0 : Bk W0 (w.heap.size + 1) 24 (c8 (z8 32)) := by rw [hW0]; simpa using Bk.new (w.alloc (Obj.cells (c8 (z8 32)).toArray 24)) 24 (c8 (z8 32))
  have zg := h.lt
  have h0 := h.below B0 zg
  obtain ⟨v, K, hy⟩ := h0
  obtain ⟨A, c, rfl, hc1, hc2, _⟩ := hy.open_
  have c0 : W0.cell? ⟨g, 0, none⟩ = some (.slice A l.length c) := K.at_ rfl
  have c1 : W0.cell? ⟨g, 1, none⟩ = some (.int .i64 (a : Int)) := K.at_ rfl
  have c2 : W0.cell? ⟨g, 2, none⟩ = some (.int .i64 0) := K.at_ rfl
  have hgt : decide ((a : Int) + 32 > (l.length : Int)) = true := decide_eq_true (by omega)
  go_enter Try.func32, Try.ntmps32
  go_wp2_with fail
  rw [← hW0]
  clear hW0
  go_quiet (fail)
  rename_i nq
  have zz0 : (W0.drewN nq).heap.size = W0.heap.size := rfl
  obtain ⟨W1, hW1⟩ : ∃ y, y = (W0.drewN nq).setCell ⟨g, 2, none⟩ (.int .i64 10) := ⟨_, rfl⟩
  have K1 : Bk W1 g 59 [.slice A l.length c, .int .i64 (a : Int), .int .i64 10] := by rw [hW1]; exact (K.drewN nq).set_ 2 _
  have G1 : W0.grownBy W1 (some g) := by rw [hW1]; exact (grown_of_below (w := W0) (below_drewN (Below.refl _ _) nq) g).trans (grown_setc _ _ _ _)
  have hy1 := hy.grown G1 (by have := B0.size; omega)
  have H1 := H0.grown (w' := W1) (row := some g) G1 (fun e => by injection e with e; omega)
  have R1 := R0.grown (w' := W1) (row := some g) G1 (fun e => by injection e with e; omega)
  have e2 : W1.cell? ⟨g, 2, none⟩ = some (.int .i64 10) := K1.at_ rfl
  have hrow : rowAt W1 ⟨w.heap.size + 1, 0, none⟩ 32 = some (c8 (z8 32)) := by have := H1.rows; rwa [length_c8, length_z8] at this
  have hcan : canAt W1 ⟨w.heap.size, 0, none⟩ 32 = true := R1.can (by simp)
  have d2 : (W0.drewN nq).cell? ⟨g, 2, none⟩ = some (.int .i64 0) := c2
  have f2 : (W0.drewN nq).frozen? ⟨g, 2, none⟩ = false := K.frozen 2
  have T1 : Tp W1 g l a 10 := ⟨_, K1, hy1⟩
  have HF := Lib.hid hW1
  rw [hW1] at e2 hrow hcan
  clear hW1 c0 c1 c2 hy hy1 K
  go_wp2_with fail
  rw [← HF.out]
  refine bodyPost_ret (results_row rfl _ _ _ _ _ _ rfl (R1.puts (vs := c8 (z8 32)) (by simp)) Try.underlying24 rfl (by simp [info_h32])) rfl ⟨rfl, T1.putFar zg _, ?_⟩
  exact grown_put_new ((grown_of_below B0 g).trans G1) (Nat.le_refl _) _ _
set_option maxRecDepth 100000 in
set_option maxHeartbeats 2000000 in
theorem thash_ok (hl : a + 32 ≤ l.length) (hl3 : l.length ≤ 1000000) (h : Tp w g l a 0) :
    Calls Try.prog 32 #[.pointer (some ⟨g, 0, none⟩)] w fun e w' => e = .returned (A8 ((l.drop a).take 32)) ∧ Tp w' g l (a + 32) 0 ∧ w.grownBy w' (some g) := by
  obtain ⟨W0, hW0⟩ : ∃ x, x = (w.alloc (Obj.cells (c8 (z8 32)).toArray 24)).alloc (Obj.cells (c8 (z8 32)).toArray 24) := ⟨_, rfl⟩
  have B0 : Below w.heap.size w W0 := by rw [hW0]; exact ((Below.refl _ _).alloc (Nat.le_refl _) _).alloc (by simp) _
  have R0 : Bk W0 w.heap.size 24 (c8 (z8 32)) := by rw [hW0]; exact (Bk.new w _ _).alloc _
  have H0 : Bk W0 (w.heap.size + 1) 24 (c8 (z8 32)) := by rw [hW0]; simpa using Bk.new (w.alloc (Obj.cells (c8 (z8 32)).toArray 24)) 24 (c8 (z8 32))
  have zg := h.lt
  have h0 := h.below B0 zg
  obtain ⟨v, K, hy⟩ := h0
  obtain ⟨gi, oi, c, rfl, hc1, hc2, _, hgi, hcell⟩ := hy.row (by omega)
  have c0 : W0.cell? ⟨g, 0, none⟩ = some (.slice (some ⟨gi, oi, none⟩) l.length c) := K.at_ rfl
  have c1 : W0.cell? ⟨g, 1, none⟩ = some (.int .i64 (a : Int)) := K.at_ rfl
  have c2 : W0.cell? ⟨g, 2, none⟩ = some (.int .i64 0) := K.at_ rfl
  have hgt : decide ((a : Int) + 32 > (l.length : Int)) = false := decide_eq_false (by omega)
  have hx32 : ((l.drop a).take 32).length = 32 := by simp; omega
  go_enter Try.func32, Try.ntmps32
  go_wp2_with fail
  rw [← hW0]
  clear hW0
  go_quiet (fail)
  rename_i nq
  have zz0 : (W0.drewN nq).heap.size = W0.heap.size := rfl
  have d2 : (W0.drewN nq).cell? ⟨g, 2, none⟩ = some (.int .i64 0) := c2
  go_wp2_with fail
  clear d2
  go_loopw [32] (fun t wr => ∃ i : Nat, i ≤ 32 ∧ t = .int .i64 (i : Int) ∧ Bk wr (w.heap.size + 1) 24 (c8 (((l.drop a).take i) ++ z8 (32 - i))) ∧ Below (w.heap.size + 1) W0 wr) (fun t _ => 32 - (intOf t).toNat)
  case atStart => exact ⟨0, by omega, rfl, by simpa using H0.drewN nq, below_drewN (Below.refl _ _) nq⟩
  case round =>
    obtain ⟨i, hi, rfl, Hr, Br⟩ := hrel
    obtain ⟨w1, rfl⟩ : ∃ x, x = wr := ⟨_, rfl⟩
    have K1 := K.below Br (by omega)
    have R1 := R0.below Br (by omega)
    have hy1 := hy.below (Br.mono (by omega))
    have c0' : w1.cell? ⟨g, 0, none⟩ = some (.slice (some ⟨gi, oi, none⟩) l.length c) := K1.at_ rfl
    have c1' : w1.cell? ⟨g, 1, none⟩ = some (.int .i64 (a : Int)) := K1.at_ rfl
    by_cases hil : i < 32
    · have hlen : (((l.drop a).take i) ++ z8 (32 - i)).length = 32 := by simp; omega
      have e0 := Hr.at_ (c8_at (l := ((l.drop a).take i) ++ z8 (32 - i)) (i := i) (by omega))
      have f0 := Hr.frozen i
      have hb : l[a + i]? = some (g8 l (a + i)) := by unfold g8; rw [List.getD_eq_getElem?_getD, List.getElem?_eq_getElem (by omega)]; rfl
      have ei : w1.cell? ⟨gi, oi + (a + i), none⟩ = some (.int .u8 (n8 (g8 l (a + i)))) := by
        have h1 := (rowAt_some hcell).2 (a + i) (v8 (g8 l (a + i))) (by simp only [c8, List.getElem?_map, hb, Option.map_some])
        rw [addr_lit] at h1
        exact (Br.cell (by show gi < w.heap.size + 1; omega)).trans h1
      have hai : (a : Int) + (i : Int) < (l.length : Int) := by omega
      have hnx : ((l.drop a).take i ++ z8 (32 - i)).set i (g8 l (a + i)) = (l.drop a).take (i + 1) ++ z8 (32 - (i + 1)) := by
        rw [take_step (q := g8 l (a + i)) (by rw [List.getElem?_drop]; exact hb)]
        have hti : ((l.drop a).take i).length = i := by simp; omega
        rw [List.set_append_right _ _ (by omega), hti, Nat.sub_self]
        obtain ⟨m, hm⟩ : ∃ m, 32 - i = m + 1 := ⟨32 - i - 1, by omega⟩
        rw [hm, show 32 - (i + 1) = m by omega]
        simp [z8, List.replicate_succ]
      have HNX := Lib.hid hnx
      clear hnx hb c0 c1 c2 hcell
      generalize g8 l (a + i) = y at *
      go_wp2_with fail
      refine wp_quiet_tail 14 (by kernel_rfl) (by kernel_rfl) ?_
      simp only [List.take_succ_cons, List.take_zero, List.drop_succ_cons, List.drop_zero]
      repeat (go_big_quiet_step (fail))
      refine wpQuiet_nil ?_
      rintro w6 ⟨nq6, rfl⟩
      have e1 : (w1.drewN nq6).cell? ⟨w.heap.size + 1, i, none⟩ = some _ := e0
      have f1 : (w1.drewN nq6).frozen? ⟨w.heap.size + 1, i, none⟩ = false := f0
      go_wp2_with fail
      go_roundw
      case rel =>
        refine ⟨i + 1, by omega, by go_num, ?_, (below_drewN Br nq6).setCell (by simp) _⟩
        rw [← HNX.out, ← c8_set]
        exact (Hr.drewN nq6).set_ i _
      case measure => simp [intOf]; omega
    · obtain rfl : i = 32 := by omega
      have e0 : ((l.drop a).take 32) ++ z8 (32 - 32) = (l.drop a).take 32 := by simp [z8]
      rw [e0] at Hr
      generalize hxe : (l.drop a).take 32 = x at *
      have HX := Lib.hid hxe
      clear hxe
      have f1 := K1.frozen 1
      have K2 := K1.set_ 1 (.int .i64 ((a : Int) + 32))
      have G2 := grown_setc w1 g 1 (.int .i64 ((a : Int) + 32))
      have H2 := Hr.grown G2 (fun e => by injection e with e; omega)
      have R2 := R1.grown G2 (fun e => by injection e with e; omega)
      have hy2 := hy1.grown G2 (by have := K1.lt; omega)
      have G1 : w.grownBy w1 (some g) := ⟨Br.os.trans B0.os, Br.tape.trans B0.tape, Br.output.trans B0.output, Nat.le_trans B0.size Br.size, fun k hk hne => (Br.block k (by omega)).trans (B0.block k hk)⟩
      have hrow : rowAt (w1.setCell ⟨g, 1, none⟩ (.int .i64 ((a : Int) + 32))) ⟨w.heap.size + 1, 0, none⟩ 32 = some (c8 x) := by have := H2.rows; rwa [length_c8, hx32] at this
      have hcan : canAt (w1.setCell ⟨g, 1, none⟩ (.int .i64 ((a : Int) + 32))) ⟨w.heap.size, 0, none⟩ 32 = true := R2.can (by simp)
      have eA : ((a + 32 : Nat) : Int) = (a : Int) + 32 := by omega
      have T2 : Tp (w1.setCell ⟨g, 1, none⟩ (.int .i64 ((a : Int) + 32))) g l (a + 32) 0 := ⟨_, by rw [eA]; exact K2, hy2⟩
      clear eA
      have e32 : ((32 : Nat) : Int) = 32 := rfl
      rw [e32]
      clear e32
      go_wp2_with fail
      refine bodyPost_ret (results_row rfl _ _ _ _ _ _ rfl (R2.puts (vs := c8 x) (by simp [hx32])) Try.underlying24 rfl (by simp [info_h32, hx32])) rfl ⟨by rw [HX.out]; rfl, T2.putFar zg _, ?_⟩
      exact grown_put_new (G1.trans G2) (Nat.le_refl _) _ _
end
end Go.Proofs.Ytlegpkdighoflaa
