/- witanlaw10: what is answered first; the tree of pairs and they themselves. -/
import Derived.Test.YtlegpkdighoflaaWitJ
import Derived.Test.YtlegpkdighoflaaWitG
set_option linter.unusedVariables false
set_option linter.unusedSimpArgs false
namespace Go.Proofs.Ytlegpkdighoflaa
open Go Go.RowKit Sh
def T128 : Tr := .nd (.lf (h1 1) (h1 2)) (.lf (h1 128) (h1 3))
theorem kb1 : kbit (h1 1) 0 = false := by decide +kernel
theorem kb128 : kbit (h1 128) 0 = true := by decide +kernel
theorem h1_ne : (h1 1) ≠ h1 128 := by decide +kernel
theorem ins1 : ins (h1 1) (h1 2) (256 - 0) 0 Tr.e = Tr.lf (h1 1) (h1 2) := by simp [ins]
theorem ins128 : ins (h1 128) (h1 3) (256 - 0) 0 (Tr.lf (h1 1) (h1 2)) = T128 := by
  show ins (h1 128) (h1 3) (255 + 1) 0 _ = _
  rw [ins]
  simp [h1_ne, kb1, kb128, T128, ins]
theorem ok128 : Okt T128 := by
  refine ⟨by omega, by simp [Tr.len], ⟨length_h1 1, length_h1 2, fun i hi => ?_⟩, ⟨length_h1 128, length_h1 3, fun i hi => ?_⟩⟩
  · obtain rfl : i = 0 := by omega
    rw [kb1]; rfl
  · obtain rfl : i = 0 := by omega
    rw [kb128]; rfl
theorem cut128 : T128.cut [h1 1] 0 = .nd (.lf (h1 1) (h1 2)) (.hd (Tr.lf (h1 128) (h1 3)).root) := by simp [T128, Tr.cut, kb1]
theorem get128a : pgRes ((T128.cut [h1 1] 0).get (h1 1) 0) = .tuple #[A8 (h1 2), .bool true, .int .i64 0] := by
  rw [cut128]
  simp [Pt.get, kb1, pgRes]
theorem get128b : pgRes ((T128.cut [h1 1] 0).get (h1 128) 0) = .tuple #[A8 (z8 32), .bool false, .int .i64 100] := by
  rw [cut128]
  simp [Pt.get, kb128, pgRes]
theorem parse200 : parseB [2, 0, 0] = .error 13 := by rfl
theorem Hs.one {w : World} {g : Nat} {t : TypeId} {k : List UInt8} (hk : k.length = 32) (K : Bk w g t (c8 k)) : Hs w 0 w.heap.size (.slice (some ⟨g, 0, none⟩) 1 1) [k] := by
  refine ⟨by simp [hk], some ⟨g, 0, none⟩, 1, rfl, Nat.le_refl _, by simp [maxLen], .inr ⟨g, 0, rfl, Nat.zero_le _, K.lt, fun j u hj => ?_⟩⟩
  rw [Nat.zero_add]
  exact K.at_ (by simpa using hj)
set_option maxRecDepth 100000 in
set_option maxHeartbeats 4000000 in
theorem first10 (w : World) : Calls Try.prog 4 #[] w fun e w' => e = .returned (.bool true) ∧ Below w.heap.size w w' := by
  have hk1 := length_h1 1
  have hk2 := length_h1 2
  have hk3 := length_h1 3
  have hk128 := length_h1 128
  go_enter Try.func4, Try.ntmps4
  go_wp2_with fail
  refine (tput_any (h1 1) (h1 2) hk1 hk2 0 .e P0 (.pointer none) w (by omega) (fun i hi => by omega) trivial (by simp [Tr.len]) rfl).mono ?_
  rw [ins1]
  rintro e wa ⟨qa, rfl, ha, ba⟩
  obtain ⟨aa, rfl⟩ := ha.form
  go_wp2_with fail
  refine (tput_any (h1 128) (h1 3) hk128 hk3 0 (.lf (h1 1) (h1 2)) P0 _ wa (by omega) (fun i hi => by omega) ⟨hk1, hk2, fun i hi => by omega⟩ (by simp [Tr.len]) ha).mono ?_
  rw [ins128]
  rintro e wb ⟨qb, rfl, hb, bb⟩
  obtain ⟨ab, rfl⟩ := hb.form
  have ok := ok128
  have hlen : T128.len = 2 := rfl
  have Bb := below_two ba bb ba.size
  obtain ⟨q, hq⟩ : ∃ q, q = T128.cut [h1 1] 0 := ⟨_, rfl⟩
  have hga := get128a
  have hgb := get128b
  have hvw := view_cut T128 [h1 1] 0
  rw [← hq] at hga hgb hvw
  have hqok := hvw.ok ok
  have hroot := hvw.root
  have HQ := Lib.hid hq
  have HGA := Lib.hid hga
  have HGB := Lib.hid hgb
  have HRT := Lib.hid hroot
  clear hq hga hgb ha ba bb
  generalize T128 = T at *
  obtain ⟨W0, hW0⟩ : ∃ x, x = (wb.alloc (Obj.cells #[.pointer ab, .int .i64 0] 50)).alloc (Obj.cells (c8 (h1 1)).toArray 24) := ⟨_, rfl⟩
  have B0 : Below wb.heap.size wb W0 := by rw [hW0]; exact ((Below.refl _ _).alloc (Nat.le_refl _) _).alloc (by simp) _
  have T0 : Bk W0 wb.heap.size 50 [.pointer ab, .int .i64 0] := by rw [hW0]; exact (Bk.new wb _ [_, _]).alloc _
  have H0 : Bk W0 (wb.heap.size + 1) 24 (c8 (h1 1)) := by rw [hW0]; simpa using Bk.new (wb.alloc (Obj.cells #[.pointer ab, .int .i64 0] 50)) 24 (c8 (h1 1))
  have A0 := (hb.below B0).more B0.size
  have BB0 := below_two Bb B0 Bb.size
  go_wp2_with fail
  rw [← hW0]
  clear hW0 hb B0 Bb
  refine (pcut_any T P0 ok (by omega) (.pointer ab) _ [h1 1] W0 (by simp) A0 (Hs.one hk1 H0)).mono ?_
  rw [← HQ.out]
  rintro e w1 ⟨rfl, b1⟩
  have T1 := T0.below b1 T0.lt
  have A1 := (A0.below b1).more b1.size
  have B1 := below_two BB0 b1 BB0.size
  obtain ⟨W2, hW2⟩ : ∃ x, x = w1.alloc (Obj.cells #[q.val] 31) := ⟨_, rfl⟩
  have b2 : Below w1.heap.size w1 W2 := by rw [hW2]; exact (Below.refl _ _).alloc (Nat.le_refl _) _
  have Q2 : Bk W2 w1.heap.size 31 [q.val] := by rw [hW2]; exact Bk.new w1 _ [_]
  have T2 := T1.below b2 T1.lt
  have A2 := (A1.below b2).more b2.size
  have B2 := below_two B1 b2 B1.size
  clear T0 H0 A0 BB0 b1 T1 A1 B1
  go_wp2_with fail
  rw [← hW2]
  clear hW2
  refine (pget_any (h1 1) hk1 q hqok.wf hqok.dp W2).mono ?_
  rw [HGA.out]
  rintro e w3 ⟨rfl, b3⟩
  have Q3 := Q2.below b3 Q2.lt
  have T3 := T2.below b3 T2.lt
  have A3 := (A2.below b3).more b3.size
  have B3 := below_two B2 b3 B2.size
  have z3 := Q2.lt
  have y3 := b3.size
  obtain ⟨W4, hW4⟩ : ∃ x, x = putAt (w3.alloc (Obj.cells (c8 (z8 32)).toArray 24)) ⟨w3.heap.size, 0, none⟩ (c8 (h1 2)) := ⟨_, rfl⟩
  have b4 : Below w3.heap.size w3 W4 := by rw [hW4]; exact below_putAt ((Below.refl _ _).alloc (Nat.le_refl _) _) (Nat.le_refl _) _
  have V4 : Bk W4 w3.heap.size 24 (c8 (h1 2)) := by rw [hW4]; exact Bk.fresh w3 _ (by simp [hk2])
  have Q4 := Q3.below b4 Q3.lt
  have T4 := T3.below b4 T3.lt
  have A4 := (A3.below b4).more b4.size
  have B4 := below_two B3 b4 B3.size
  have q3 := Q3.at_ (i := 0) rfl
  have q4 := Q4.at_ (i := 0) rfl
  rw [hW4] at q4
  clear Q2 T2 A2 B2 b3 Q3 T3 A3 B3
  go_wp2_with fail
  rw [← hW4]
  clear q3 q4
  refine (pget_any (h1 128) hk128 q hqok.wf hqok.dp W4).mono ?_
  rw [HGB.out]
  rintro e w5 ⟨rfl, b5⟩
  have Q5 := Q4.below b5 Q4.lt
  have V5 := V4.below b5 V4.lt
  have T5 := T4.below b5 T4.lt
  have A5 := (A4.below b5).more b5.size
  have B5 := below_two B4 b5 B4.size
  have y5 := b5.size
  have z5 := V4.lt
  obtain ⟨W6, hW6⟩ : ∃ x, x = (putAt (w5.alloc (Obj.cells (c8 (z8 32)).toArray 24)) ⟨w5.heap.size, 0, none⟩ (c8 (z8 32))).alloc (Obj.cells #[.int .u8 2, .int .u8 0, .int .u8 0] 5) := ⟨_, rfl⟩
  have b6 : Below w5.heap.size w5 W6 := by rw [hW6]; exact (below_putAt ((Below.refl _ _).alloc (Nat.le_refl _) _) (Nat.le_refl _) _).alloc (by simp) _
  have Y6 : By W6 0 W6.heap.size (.slice (some ⟨w5.heap.size + 1, 0, none⟩) 3 3) [2, 0, 0] := by
    rw [hW6]
    have := (By.build (putAt (w5.alloc (Obj.cells (c8 (z8 32)).toArray 24)) ⟨w5.heap.size, 0, none⟩ (c8 (z8 32))) 5 (0, 0) [2, 0, 0] (by simp)).more (B' := w5.heap.size + 1 + 1) (by simp)
    simpa [v8, n8] using this
  have Q6 := Q5.below b6 Q5.lt
  have V6 := V5.below b6 V5.lt
  have T6 := T5.below b6 T5.lt
  have A6 := (A5.below b6).more b6.size
  have B6 := below_two B5 b6 B5.size
  clear Q4 T4 V4 A4 B4 b5 b4 Q5 V5 T5 A5 B5 hW4
  go_wp2_with fail
  rw [← hW6]
  clear hW6
  refine (parse_any _ [2, 0, 0] W6 Y6).mono ?_
  rintro e w7 ⟨q7, n7, rfl, hp7, b7⟩
  rw [parse200] at hp7
  obtain ⟨rfl, rfl⟩ := hp7
  have Q7 := Q6.below b7 Q6.lt
  have V7 := V6.below b7 V6.lt
  have T7 := T6.below b7 T6.lt
  have A7 := (A6.below b7).more b7.size
  have B7 := below_two B6 b7 B6.size
  have y7 := b7.size
  clear Q6 V6 T6 A6 B6 b7 Y6 b6
  obtain ⟨W8, hW8⟩ : ∃ x, x = w7.alloc (Obj.cells #[.nilIface] 31) := ⟨_, rfl⟩
  have b8 : Below w7.heap.size w7 W8 := by rw [hW8]; exact (Below.refl _ _).alloc (Nat.le_refl _) _
  have Q8 := Q7.below b8 Q7.lt
  have V8 := V7.below b8 V7.lt
  have T8 := T7.below b8 T7.lt
  have A8' := (A7.below b8).more b8.size
  have B8 := below_two B7 b8 B7.size
  have hrl := T.root_length
  clear Q7 V7 T7 A7 B7 b8
  dsimp only [Pt.val]
  go_wp2_with fail
  rw [← hW8]
  clear hW8
  have zq := Q8.lt
  have zv := V8.lt
  have zt := T8.lt
  have q0 : W8.cell? ⟨w1.heap.size, 0, none⟩ = some q.val := Q8.at_ rfl
  have t0 : W8.cell? ⟨wb.heap.size, 0, none⟩ = some (.pointer ab) := T8.at_ rfl
  have t1 : W8.cell? ⟨wb.heap.size, 1, none⟩ = some (.int .i64 0) := T8.at_ rfl
  have rv : rowAt W8 ⟨w3.heap.size, 0, none⟩ 32 = some (c8 (h1 2)) := by have := V8.rows; rwa [length_c8, hk2] at this
  have hpr : ∀ W : World, Calls Try.prog 7 #[.agg #[q.val]] W fun e w' => e = .returned (A8 T.root) ∧ Below W.heap.size W w' := fun W => by
    have := proots_any q hqok.wf W
    rw [HRT.out] at this
    exact this
  refine wp_ext (by kernel_rfl) (by kernel_rfl) ?_
  repeat (go_big_quiet_step (first | (go_at_call 7; exact quiet_ext (fun W hW => hpr W)) | (go_at_call 16; exact quiet_ext (fun W hW => troot_any T (.pointer ab) 0 W ((A8'.below hW).more hW.size)))))
  refine wpQuiet_nil ?_
  rintro w9 ⟨p9, hw9⟩
  have Be : Below W8.heap.size W8 w9 := by rw [hw9]; exact below_ext W8 p9
  have B9 := below_two B8 Be B8.size
  clear hw9 q0 t0 t1 rv
  go_wp2_with fail
  go_ret
  exact ⟨rfl, B9⟩
end Go.Proofs.Ytlegpkdighoflaa
