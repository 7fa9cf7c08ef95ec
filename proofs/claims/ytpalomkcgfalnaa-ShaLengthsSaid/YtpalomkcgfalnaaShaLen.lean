/- witanlaw02.ShaLengths answers true. -/
import Derived.Test.YtpalomkcgfalnaaFirst02
import Derived.Test.YtpalomkcgfalnaaDg32m
import Derived.Test.YtpalomkcgfalnaaDg64m
import Derived.Test.YtpalomkcgfalnaaHoistB
import Derived.Test.YtpalomkcgfalnaaStr
import Derived.Test.YtpalomkcgfalnaaTreeA
import Derived.Outline
namespace Go.Proofs.Ytpalomkcgfalnaa
open Go Go.RowKit Sh
set_option maxRecDepth 100000 in
set_option maxHeartbeats 2000000 in
theorem shaLengths_any (n : Int) (hn : 0 ≤ IntKind.u64.wrap n ∧ IntKind.u64.wrap n < 18446744073709551616) (w : World) :
    Calls Try.prog 5 #[.int .i64 n] w fun e w' => e = .returned (.bool true) ∧ Below w.heap.size w w' := by
  obtain ⟨m, hm⟩ := Int.eq_ofNat_of_zero_le hn.1
  have hk : (m : Int) % 300 = ((m % 300 : Nat) : Int) := by omega
  have hk3 : m % 300 < 300 := by omega
  generalize m % 300 = k at *
  go_enter Try.func5, Try.ntmps5
  go_wp2_with fail
  refine (first02 _).mono ?_
  rintro e w1 ⟨rfl, hb1⟩
  go_wp2_with (refine wpList_make8 rfl _ _ rfl k _ _ rfl rfl (by omega) ?_)
  obtain ⟨w2, hw2⟩ : ∃ x, x = w1.alloc (Obj.cells (c8 (z8 k)).toArray 5) := ⟨_, rfl⟩
  rw [← hw2]
  have b2 : By w2 0 w2.heap.size (.slice (some ⟨w1.heap.size, 0, none⟩) k k) (z8 k) := by rw [hw2]; exact (Bk.new w1 5 (c8 (z8 k))).whole k (by simp) (by omega)
  have B2 : Below w.heap.size w w2 := by rw [hw2]; exact hb1.alloc hb1.size _
  have z2 : w2.heap.size = w1.heap.size + 1 := by rw [hw2]; simp
  clear hw2 hb1
  generalize w1.heap.size = g1 at *
  obtain ⟨wb, hwb⟩ : ∃ x, x = w2.alloc (Obj.cells #[.slice (some ⟨g1, 0, none⟩) k k] 22) := ⟨_, rfl⟩
  rw [← hwb]
  have pb : Parts wb wb.heap.size (.slice (some ⟨g1 + 1, 0, none⟩) 1 1) [z8 k] := by
    rw [hwb, ← z2]; simpa using Parts.one w2 22 _ _ b2
  have Bb : Below w2.heap.size w2 wb := by rw [hwb]; exact (Below.refl _ _).alloc (Nat.le_refl _) _
  clear hwb
  refine (sum256_any _ [z8 k] wb pb (by simp; omega)).mono ?_
  rintro e w3 ⟨rfl, h3⟩
  have B3 := below_two Bb h3 Bb.size
  have ef : [z8 k].flatten = z8 k := by simp
  rw [ef]
  clear h3 pb Bb
  go_wp2_with fail
  obtain ⟨wc, hwc⟩ : ∃ x, x = w3.alloc (Obj.cells #[.slice (some ⟨g1, 0, none⟩) k k] 22) := ⟨_, rfl⟩
  rw [← hwc]
  have b3 := (b2.below B3).more B3.size
  have pc : Parts wc wc.heap.size (.slice (some ⟨w3.heap.size, 0, none⟩) 1 1) [z8 k] := by
    rw [hwc]; simpa using Parts.one w3 22 _ _ b3
  have Bc : Below w2.heap.size w2 wc := by rw [hwc]; exact B3.alloc B3.size _
  clear hwc b3
  refine (sum512_any _ [z8 k] wc pc (by simp; omega)).mono ?_
  rintro e w4 ⟨rfl, h4⟩
  have B4 := below_two Bc h4 Bc.size
  rw [ef]
  clear h4 pc Bc B3
  have l32 := length_sum32 (z8 k)
  have l64 := length_sum64 (z8 k)
  generalize hH : sum32 (z8 k) = H at *
  generalize hG : sum64 (z8 k) = G at *
  have HH := Lib.hid hH
  have HG := Lib.hid hG
  clear hH hG
  go_wp2_with fail
  obtain ⟨w5, hw5⟩ : ∃ x, x = putAt (putAt ((w4.alloc (Obj.cells (c8 (z8 32)).toArray 25)).alloc (Obj.cells (c8 (z8 64)).toArray 27)) ⟨w4.heap.size, 0, none⟩ (c8 H)) ⟨w4.heap.size + 1, 0, none⟩ (c8 G) := ⟨_, rfl⟩
  rw [← hw5]
  have K5 : Bk w5 w4.heap.size 25 (c8 H) := by rw [hw5]; exact (((Bk.new w4 _ _).alloc _).puts (by simp [l32])).putFar (by simp) _
  have V5 : Bk w5 (w4.heap.size + 1) 27 (c8 G) := by
    rw [hw5]
    have := (Bk.new (w4.alloc (Obj.cells (c8 (z8 32)).toArray 25)) 27 (c8 (z8 64))).putFar (p := ⟨w4.heap.size, 0, none⟩) (by simp) (c8 H)
    exact Bk.puts (by simpa using this) (by simp [l64])
  have B5 : Below w2.heap.size w2 w5 := by rw [hw5]; exact below_putAt (below_putAt ((B4.alloc B4.size _).alloc (by simp; have := B4.size; omega) _) (by exact B4.size) _) (by simp; have := B4.size; omega) _
  have b5 := (b2.below B5).more B5.size
  have BW := below_two B2 B5 B2.size
  have z5 := V5.lt
  generalize w4.heap.size = g4 at *
  clear hw5 B4 B5 b2 z2
  have By5 : By w5 0 w5.heap.size (.slice (some ⟨g1, 0, none⟩) k k) (z8 k) := b5
  refine held_begin (fun W => Below w5.heap.size w5 W) (by kernel_rfl) ?_
  have S0 : Below w5.heap.size w5 w5.drew := (Below.refl _ _).drew
  refine held_quiet (A := ?A) [0, 1, 2] (by kernel_rfl) (by kernel_rfl) rfl (by kernel_rfl) (by kernel_rfl) S0 (h := fun W hW => ?h) (hr := ?r)
  case h =>
    have r1 := (K5.below hW (by omega)).rows
    rw [length_c8, l32] at r1
    simp only [pick, List.getElem?_cons_zero, List.getElem?_cons_succ]
    repeat (go_big_quiet_step (fail))
    refine wpQuiet_nil ?_
    rfl
  case r =>
    refine held_one 3 (by kernel_rfl) (by rfl) (by rfl) (fun Q' hQ' => ?_)
    dsimp only [bare]
    go_wp2_with fail
    have y0 : By w5.drew 0 w5.drew.heap.size (.slice (some ⟨g1, 0, none⟩) k k) (z8 k) := By5
    refine (digest32 _ (z8 k) w5.drew y0 (by simp; omega)).mono ?_
    rintro e w6 ⟨u, rfl, hu, h6⟩
    have S6 : Below w5.heap.size w5 w6 := S0.trans h6
    rw [HH.out] at hu
    obtain ⟨gu, ou, cu, rfl, _, _, _, hgu, hru⟩ := hu.by_.row (by omega)
    rw [l32] at hru ⊢
    clear hu h6
    go_wp2_with fail
    refine hQ' _ _ S6 ?_
    clear hQ'
    refine held_one 4 (by kernel_rfl) (by rfl) (by rfl) (fun Q' hQ' => ?_)
    dsimp only [bare]
    go_wp2_with fail
    refine hQ' _ _ S6 ?_
    clear hQ'
    clear hru
    refine held_one 5 (by kernel_rfl) (by rfl) (by rfl) (fun Q' hQ' => ?_)
    dsimp only [bare]
    go_wp2_with fail
    refine hQ' _ _ S6 ?_
    clear hQ'
    refine held_one 6 (by kernel_rfl) (by rfl) (by rfl) (fun Q' hQ' => ?_)
    dsimp only [bare]
    go_wp2_with fail
    refine hQ' _ _ S6 ?_
    clear hQ'
    refine held_quiet (A := ?A2) [7, 8, 9] (by kernel_rfl) (by kernel_rfl) rfl (by kernel_rfl) (by kernel_rfl) S6 (h := fun W hW => ?h2) (hr := ?r2)
    case h2 =>
      have r1 := (V5.below hW (by omega)).rows
      rw [length_c8, l64] at r1
      simp only [List.append_eq, List.nil_append, List.cons_append, pick, List.getElem?_cons_zero, List.getElem?_cons_succ]
      repeat (go_big_quiet_step (fail))
      refine wpQuiet_nil ?_
      rfl
    case r2 =>
      refine held_one 10 (by kernel_rfl) (by rfl) (by rfl) (fun Q' hQ' => ?_)
      dsimp only [bare]
      go_wp2_with fail
      have y1 : By w6 0 w6.heap.size (.slice (some ⟨g1, 0, none⟩) k k) (z8 k) := (By5.below S6).more S6.size
      refine (digest64 _ (z8 k) w6 y1 (by simp; omega)).mono ?_
      rintro e w7 ⟨u, rfl, hu, h7⟩
      have S7 : Below w5.heap.size w5 w7 := below_two S6 h7 S6.size
      rw [HG.out] at hu
      obtain ⟨gv, ov, cv, rfl, _, _, _, hgv, hrv⟩ := hu.by_.row (by omega)
      rw [l64] at hrv ⊢
      clear hu h7
      go_wp2_with fail
      refine hQ' _ _ S7 ?_
      clear hQ'
      refine held_one 11 (by kernel_rfl) (by rfl) (by rfl) (fun Q' hQ' => ?_)
      dsimp only [bare]
      go_wp2_with fail
      refine hQ' _ _ S7 ?_
      clear hQ'
      refine held_one 12 (by kernel_rfl) (by rfl) (by rfl) (fun Q' hQ' => ?_)
      dsimp only [bare]
      go_wp2_with fail
      refine hQ' _ _ S7 ?_
      clear hQ'
      refine held_one 13 (by kernel_rfl) (by rfl) (by rfl) (fun Q' hQ' => ?_)
      dsimp only [bare]
      go_wp2_with fail
      refine hQ' _ _ S7 ?_
      clear hQ'
      refine held_one 14 (by kernel_rfl) (by rfl) (by rfl) (fun Q' hQ' => ?_)
      dsimp only [bare]
      go_wp2_with fail
      refine hQ' _ _ S7 ?_
      clear hQ'
      refine held_end (by kernel_rfl) ?_
      go_wp2_with fail
      go_ret
      exact ⟨rfl, BW.trans (S7.mono BW.size)⟩
end Go.Proofs.Ytpalomkcgfalnaa
