/- witanlaw02.ShaSums answers true. -/
import Derived.Test.YtpalomkcgfalnaaFirst02
import Derived.Test.YtpalomkcgfalnaaDg32m
import Derived.Test.YtpalomkcgfalnaaDg64m
import Derived.Test.YtpalomkcgfalnaaHoistC
import Derived.Test.YtpalomkcgfalnaaStr
import Derived.Test.YtpalomkcgfalnaaTreeA
import Derived.Outline
set_option linter.unusedVariables false
set_option linter.unusedSimpArgs false
namespace Go.Proofs.Ytpalomkcgfalnaa
open Go Go.RowKit Sh
def Inv6 (A A' : Option Addr) (L c m k a : Nat) (n : Int) (x : List UInt8) (w1 : World) (listed : Array Bool) (ac : Act) (w : World) : Prop :=
  ∃ s8 s9 s33 s34 s41 s42 : Value, ac = ⟨(.slice A L c :: .int .i64 n :: undef :: undef :: .bool false :: .slice A m c :: .int .i64 (k : Int) :: S8 x :: s8 :: s9 :: .bool true :: .bool false :: .slice A L c :: .slice A L c :: .int .i64 (L : Int) :: .int .i64 (m : Int) :: .slice A m c :: .int .i64 n :: .int .u64 (a : Int) :: .slice A m c :: .int .i64 (m : Int) :: .int .i64 ((m : Int) + 1) :: .int .u64 ((m : Int) + 1) :: .int .u64 ((a : Int) % ((m : Int) + 1)) :: .int .i64 (k : Int) :: .slice A m c :: S8 x :: .slice A m c :: .int .i64 (k : Int) :: .slice A k c :: .slice A m c :: .int .i64 (k : Int) :: .slice A' (m - k) (c - k) :: s33 :: s34 :: .slice A m c :: .int .i64 (k : Int) :: .slice A k c :: .slice A m c :: .int .i64 (k : Int) :: .slice A' (m - k) (c - k) :: s41 :: s42 :: undef :: undef :: undef :: undef :: undef :: undef :: undef :: undef :: undef :: undef :: undef :: undef :: undef :: undef :: undef :: undef :: undef :: undef :: undef :: undef :: []).toArray, []⟩ ∧ Below w1.heap.size w1 w ∧ (∀ j ∈ [0, 1, 2, 3, 4, 5, 8, 9, 10, 11, 12, 13], listed.getD j false = true) ∧
    (listed.getD 6 false = true → listed.getD 18 false = false → Parts w w.heap.size s33 [x.take k, [], x.drop k]) ∧
    (listed.getD 7 false = true → s34 = A8 (sum32 x)) ∧
    (listed.getD 14 false = true → listed.getD 18 false = false → Parts w w.heap.size s41 [x.take k, x.drop k]) ∧
    (listed.getD 15 false = true → s42 = A8 (sum64 x)) ∧
    (listed.getD 16 false = true → ∃ g, s8 = .pointer (some ⟨g, 0, none⟩) ∧ w1.heap.size ≤ g ∧ Bk w g 25 (c8 (if listed.getD 18 false then sum32 x else z8 32))) ∧
    (listed.getD 17 false = true → ∃ g, s9 = .pointer (some ⟨g, 0, none⟩) ∧ w1.heap.size ≤ g ∧ Bk w g 27 (c8 (if listed.getD 19 false then sum64 x else z8 64))) ∧
    (listed.getD 18 false = true → listed.getD 7 false = true ∧ listed.getD 15 false = true ∧ listed.getD 16 false = true) ∧
    (listed.getD 19 false = true → listed.getD 17 false = true)
theorem inv6_mono {A A' : Option Addr} {L c m k a : Nat} {n : Int} {x : List UInt8} {w1 : World} {listed : Array Bool} {ac : Act} {w w' : World} (h : Inv6 A A' L c m k a n x w1 listed ac w) (hb : Below w.heap.size w w') (hz : w1.heap.size ≤ w.heap.size) : Inv6 A A' L c m k a n x w1 listed ac w' := by
  obtain ⟨s8, s9, s33, s34, s41, s42, e, B, hq, F6, F7, F14, F15, F16, F17, F18, F19⟩ := h
  refine ⟨s8, s9, s33, s34, s41, s42, e, B.trans (hb.mono hz), hq, fun h1 h2 => ((F6 h1 h2).below hb).more hb.size, F7, fun h1 h2 => ((F14 h1 h2).below hb).more hb.size, F15, fun h1 => ?_, fun h1 => ?_, F18, F19⟩
  · obtain ⟨g, e1, e2, e3⟩ := F16 h1
    exact ⟨g, e1, e2, e3.below hb e3.lt⟩
  · obtain ⟨g, e1, e2, e3⟩ := F17 h1
    exact ⟨g, e1, e2, e3.below hb e3.lt⟩
theorem getD_clash {m : Array Bool} {i : Nat} (h1 : m.getD i true = false) (h2 : m.getD i false = true) : False := by
  rcases Nat.lt_or_ge i m.size with h | h
  · simp [h] at h1 h2; rw [h1] at h2; cases h2
  · simp [Array.getElem?_eq_none h] at h1
set_option maxRecDepth 100000 in
set_option maxHeartbeats 4000000 in
theorem shaSums_any (v : Value) (b : List UInt8) (n : Int) (hn : 0 ≤ IntKind.u64.wrap n ∧ IntKind.u64.wrap n < 18446744073709551616) (w : World) (hb : By w 0 w.heap.size v b) :
    Calls Try.prog 3 #[v, .int .i64 n] w fun e w' => e = .returned (.bool true) ∧ Below w.heap.size w w' := by
  obtain ⟨a, ha⟩ := Int.eq_ofNat_of_zero_le hn.1
  obtain ⟨A, c, rfl, hc, hcm, hrd⟩ := hb.open_
  have hmin : (if (5000 : Int) < (b.length : Int) then (5000 : Int) else (b.length : Int)) = ((min b.length 5000 : Nat) : Int) := by split <;> omega
  have hx : (b.take 5000).length = min b.length 5000 := by rw [List.length_take, Nat.min_comm]
  have hrx := hrd.take 5000
  rw [← List.map_take] at hrx
  have hm5 : min b.length 5000 ≤ 5000 := by omega
  have hmc : min b.length 5000 ≤ c := by omega
  have hml : min b.length 5000 ≤ b.length := by omega
  generalize b.take 5000 = x at *
  generalize min b.length 5000 = m at *
  generalize b.length = L at *
  have hk : (a : Int) % ((m : Int) + 1) = ((a % (m + 1) : Nat) : Int) := by simp
  have hkm : a % (m + 1) ≤ m := by have := Nat.mod_lt a (show 0 < m + 1 by omega); omega
  generalize a % (m + 1) = k at *
  have bx : By w 0 w.heap.size (.slice A m c) x := by rw [← hx]; exact By.mk_ (by omega) (by unfold maxLen; exact hcm) hrx
  have hxl := hx
  clear hrx hrd hb
  go_enter Try.func3, Try.ntmps3
  go_wp2_with fail
  refine (first02 _).mono ?_
  rintro e w1 ⟨rfl, hb1⟩
  have b1 := (bx.below hb1).more hb1.size
  have hs1 : ∀ raw, strOp w1 raw (.slice A m c) = .ok (.value (S8 x)) w1 := fun raw => strOp_by b1 raw
  clear bx
  go_wp2_with fail
  clear hs1
  obtain ⟨A', hA'⟩ : ∃ A', A' = (if c = k then A else A.map (·.add k)) := ⟨_, rfl⟩
  have S0 : Below w1.heap.size w1 w1.drew := (Below.refl _ _).drew
  have hkc : k ≤ c := by omega
  refine held_begin (fun W => Below w1.heap.size w1 W) (by kernel_rfl) ?_
  refine held_quiet (A := ?A) [0, 1, 2, 3, 4, 5, 8, 9, 10, 11, 12, 13] (by kernel_rfl) (by kernel_rfl) rfl (by kernel_rfl) (by kernel_rfl) S0 (h := fun W hW => ?h) (hr := ?r)
  case h =>
    simp only [pick, List.getElem?_cons_zero, List.getElem?_cons_succ]
    repeat (go_big_quiet_step (fail))
    refine wpQuiet_nil ?_
    rfl
  case r =>
    have bt : By w1 0 w1.heap.size (.slice A k c) (x.take k) := b1.takes hkm
    have bd : By w1 0 w1.heap.size (.slice A' (m - k) (c - k)) (x.drop k) := by rw [hA']; exact b1.drops hkm
    rw [← hA']
    clear hA' hk
    refine held_of_inv (Inv6 A A' L c m k a n x w1) (by kernel_rfl) (fun _ _ _ h => by obtain ⟨_, _, _, _, _, _, _, h, _⟩ := h; exact h) ?step ?ende (by kernel_rfl) ?init
    case init => exact ⟨undef, undef, undef, undef, undef, undef, rfl, S0, by decide, fun h => absurd h (by decide), fun h => absurd h (by decide), fun h => absurd h (by decide), fun h => absurd h (by decide), fun h => absurd h (by decide), fun h => absurd h (by decide), fun h => absurd h (by decide), fun h => absurd h (by decide)⟩
    case step =>
      intro listed ac w i o hI hsz hi hun hpre K hK
      have hI0 := hI
      obtain ⟨s8, s9, s33, s34, s41, s42, rfl, B, hqs, F6, F7, F14, F15, F16, F17, F18, F19⟩ := hI
      have hil : i < 20 := by simpa using (List.getElem?_eq_some_iff.1 hi).1
      have hsz : listed.size = 20 := by simpa using hsz
      have hiq : i = 6 ∨ i = 7 ∨ i = 14 ∨ i = 15 ∨ i = 16 ∨ i = 17 ∨ i = 18 ∨ i = 19 := by
        apply Classical.byContradiction
        intro hn
        exact getD_clash hun (hqs i (by simp; omega))
      rcases hiq with rfl | rfl | rfl | rfl | rfl | rfl | rfl | rfl
      · have E : ∀ j, j ≠ 6 → (listed.setIfInBounds 6 true).getD j false = listed.getD j false := fun j hj => getD_set_ne false (Ne.symm hj)
        cases hi
        have HQ : ∀ j ∈ [0, 1, 2, 3, 4, 5, 8, 9, 10, 11, 12, 13], (listed.setIfInBounds 6 true).getD j false = true := fun j hj => by rw [E j (by rintro rfl; simp at hj)]; exact hqs j hj
        refine inv_op (by rfl) rfl (fun Q' hQ' => ?_)
        go_wp2_with fail
        have hb := (Below.refl w.heap.size w).alloc (Nat.le_refl _) (Obj.cells #[.slice A k c, .slice none 0 0, .slice A' (m - k) (c - k)] 22)
        have hp := Parts.three w 22 _ _ _ _ _ _ ((bt.below B).more B.size) (By.nil w 0 _) ((bd.below B).more B.size)
        obtain ⟨s8, s9, s33, s34, s41, s42, e, B, hqs, F6, F7, F14, F15, F16, F17, F18, F19⟩ := inv6_mono hI0 hb B.size
        cases e
        refine ⟨(s8), (s9), (.slice (some ⟨w.heap.size, 0, none⟩) 3 3), (s34), (s41), (s42), rfl, B, HQ, ?_, ?_, ?_, ?_, ?_, ?_, ?_, ?_⟩
        · intro _ _; simpa using hp
        · rw [E 7 (by decide)]; exact F7
        · rw [E 14 (by decide), E 18 (by decide)]; exact F14
        · rw [E 15 (by decide)]; exact F15
        · rw [E 16 (by decide), E 18 (by decide)]; exact F16
        · rw [E 17 (by decide), E 19 (by decide)]; exact F17
        · rw [E 18 (by decide), E 7 (by decide), E 15 (by decide), E 16 (by decide)]; exact F18
        · rw [E 19 (by decide), E 17 (by decide)]; exact F19
      · have E : ∀ j, j ≠ 7 → (listed.setIfInBounds 7 true).getD j false = listed.getD j false := fun j hj => getD_set_ne false (Ne.symm hj)
        cases hi
        have HQ : ∀ j ∈ [0, 1, 2, 3, 4, 5, 8, 9, 10, 11, 12, 13], (listed.setIfInBounds 7 true).getD j false = true := fun j hj => by rw [E j (by rintro rfl; simp at hj)]; exact hqs j hj
        have h6 := hpre ⟨6, .data⟩ (by simp) rfl
        have h18 : listed.getD 18 false = false := by
          cases h : listed.getD 18 false with
          | false => rfl
          | true => exact (getD_clash hun (F18 h).1).elim
        have p6 := F6 h6 h18
        refine inv_op (by rfl) rfl (fun Q' hQ' => ?_)
        go_wp2_with fail
        refine (sum256_any _ _ w p6 (by simp; omega)).mono ?_
        rintro e w' ⟨rfl, hb⟩
        have ef : [x.take k, [], x.drop k].flatten = x := by simp
        rw [ef]
        clear p6
        obtain ⟨s8, s9, s33, s34, s41, s42, e, B, hqs, F6, F7, F14, F15, F16, F17, F18, F19⟩ := inv6_mono hI0 hb B.size
        cases e
        go_wp2_with fail
        refine ⟨(s8), (s9), (s33), (A8 (sum32 x)), (s41), (s42), rfl, B, HQ, ?_, ?_, ?_, ?_, ?_, ?_, ?_, ?_⟩
        · rw [E 6 (by decide), E 18 (by decide)]; exact F6
        · intro _; rfl
        · rw [E 14 (by decide), E 18 (by decide)]; exact F14
        · rw [E 15 (by decide)]; exact F15
        · rw [E 16 (by decide), E 18 (by decide)]; exact F16
        · rw [E 17 (by decide), E 19 (by decide)]; exact F17
        · rw [E 18 (by decide), E 15 (by decide), E 16 (by decide)]; exact fun h => absurd h (by rw [h18]; simp)
        · rw [E 19 (by decide), E 17 (by decide)]; exact F19
      · have E : ∀ j, j ≠ 14 → (listed.setIfInBounds 14 true).getD j false = listed.getD j false := fun j hj => getD_set_ne false (Ne.symm hj)
        cases hi
        have HQ : ∀ j ∈ [0, 1, 2, 3, 4, 5, 8, 9, 10, 11, 12, 13], (listed.setIfInBounds 14 true).getD j false = true := fun j hj => by rw [E j (by rintro rfl; simp at hj)]; exact hqs j hj
        refine inv_op (by rfl) rfl (fun Q' hQ' => ?_)
        go_wp2_with fail
        have hb := (Below.refl w.heap.size w).alloc (Nat.le_refl _) (Obj.cells #[.slice A k c, .slice A' (m - k) (c - k)] 22)
        have hp := Parts.two w 22 _ _ _ _ ((bt.below B).more B.size) ((bd.below B).more B.size)
        obtain ⟨s8, s9, s33, s34, s41, s42, e, B, hqs, F6, F7, F14, F15, F16, F17, F18, F19⟩ := inv6_mono hI0 hb B.size
        cases e
        refine ⟨(s8), (s9), (s33), (s34), (.slice (some ⟨w.heap.size, 0, none⟩) 2 2), (s42), rfl, B, HQ, ?_, ?_, ?_, ?_, ?_, ?_, ?_, ?_⟩
        · rw [E 6 (by decide), E 18 (by decide)]; exact F6
        · rw [E 7 (by decide)]; exact F7
        · intro _ _; simpa using hp
        · rw [E 15 (by decide)]; exact F15
        · rw [E 16 (by decide), E 18 (by decide)]; exact F16
        · rw [E 17 (by decide), E 19 (by decide)]; exact F17
        · rw [E 18 (by decide), E 7 (by decide), E 15 (by decide), E 16 (by decide)]; exact F18
        · rw [E 19 (by decide), E 17 (by decide)]; exact F19
      · have E : ∀ j, j ≠ 15 → (listed.setIfInBounds 15 true).getD j false = listed.getD j false := fun j hj => getD_set_ne false (Ne.symm hj)
        cases hi
        have HQ : ∀ j ∈ [0, 1, 2, 3, 4, 5, 8, 9, 10, 11, 12, 13], (listed.setIfInBounds 15 true).getD j false = true := fun j hj => by rw [E j (by rintro rfl; simp at hj)]; exact hqs j hj
        have h14 := hpre ⟨14, .data⟩ (by simp) rfl
        have h18 : listed.getD 18 false = false := by
          cases h : listed.getD 18 false with
          | false => rfl
          | true => exact (getD_clash hun (F18 h).2.1).elim
        have p14 := F14 h14 h18
        refine inv_op (by rfl) rfl (fun Q' hQ' => ?_)
        go_wp2_with fail
        refine (sum512_any _ _ w p14 (by simp; omega)).mono ?_
        rintro e w' ⟨rfl, hb⟩
        have ef : [x.take k, x.drop k].flatten = x := by simp
        rw [ef]
        clear p14
        obtain ⟨s8, s9, s33, s34, s41, s42, e, B, hqs, F6, F7, F14, F15, F16, F17, F18, F19⟩ := inv6_mono hI0 hb B.size
        cases e
        go_wp2_with fail
        refine ⟨(s8), (s9), (s33), (s34), (s41), (A8 (sum64 x)), rfl, B, HQ, ?_, ?_, ?_, ?_, ?_, ?_, ?_, ?_⟩
        · rw [E 6 (by decide), E 18 (by decide)]; exact F6
        · rw [E 7 (by decide)]; exact F7
        · rw [E 14 (by decide), E 18 (by decide)]; exact F14
        · intro _; rfl
        · rw [E 16 (by decide), E 18 (by decide)]; exact F16
        · rw [E 17 (by decide), E 19 (by decide)]; exact F17
        · rw [E 18 (by decide), E 7 (by decide), E 16 (by decide)]; exact fun h => absurd h (by rw [h18]; simp)
        · rw [E 19 (by decide), E 17 (by decide)]; exact F19
      · have E : ∀ j, j ≠ 16 → (listed.setIfInBounds 16 true).getD j false = listed.getD j false := fun j hj => getD_set_ne false (Ne.symm hj)
        cases hi
        have HQ : ∀ j ∈ [0, 1, 2, 3, 4, 5, 8, 9, 10, 11, 12, 13], (listed.setIfInBounds 16 true).getD j false = true := fun j hj => by rw [E j (by rintro rfl; simp at hj)]; exact hqs j hj
        have h18 : listed.getD 18 false = false := by
          cases h : listed.getD 18 false with
          | false => rfl
          | true => exact (getD_clash hun (F18 h).2.2).elim
        refine inv_op (by rfl) rfl (fun Q' hQ' => ?_)
        go_wp2_with fail
        have hb := (Below.refl w.heap.size w).alloc (Nat.le_refl _) (Obj.cells (c8 (z8 32)).toArray 25)
        have hz := B.size
        obtain ⟨s8, s9, s33, s34, s41, s42, e, B, hqs, F6, F7, F14, F15, F16, F17, F18, F19⟩ := inv6_mono hI0 hb B.size
        cases e
        refine ⟨(.pointer (some ⟨w.heap.size, 0, none⟩)), (s9), (s33), (s34), (s41), (s42), rfl, B, HQ, ?_, ?_, ?_, ?_, ?_, ?_, ?_, ?_⟩
        · rw [E 6 (by decide), E 18 (by decide)]; exact F6
        · rw [E 7 (by decide)]; exact F7
        · rw [E 14 (by decide), E 18 (by decide)]; exact F14
        · rw [E 15 (by decide)]; exact F15
        · intro _; rw [E 18 (by decide), h18]; exact ⟨_, rfl, hz, Bk.new _ _ _⟩
        · rw [E 17 (by decide), E 19 (by decide)]; exact F17
        · rw [E 18 (by decide), E 7 (by decide), E 15 (by decide)]; exact fun h => absurd h (by rw [h18]; simp)
        · rw [E 19 (by decide), E 17 (by decide)]; exact F19
      · have E : ∀ j, j ≠ 17 → (listed.setIfInBounds 17 true).getD j false = listed.getD j false := fun j hj => getD_set_ne false (Ne.symm hj)
        cases hi
        have HQ : ∀ j ∈ [0, 1, 2, 3, 4, 5, 8, 9, 10, 11, 12, 13], (listed.setIfInBounds 17 true).getD j false = true := fun j hj => by rw [E j (by rintro rfl; simp at hj)]; exact hqs j hj
        have h19 : listed.getD 19 false = false := by
          cases h : listed.getD 19 false with
          | false => rfl
          | true => exact (getD_clash hun (F19 h)).elim
        refine inv_op (by rfl) rfl (fun Q' hQ' => ?_)
        go_wp2_with fail
        have hb := (Below.refl w.heap.size w).alloc (Nat.le_refl _) (Obj.cells (c8 (z8 64)).toArray 27)
        have hz := B.size
        obtain ⟨s8, s9, s33, s34, s41, s42, e, B, hqs, F6, F7, F14, F15, F16, F17, F18, F19⟩ := inv6_mono hI0 hb B.size
        cases e
        refine ⟨(s8), (.pointer (some ⟨w.heap.size, 0, none⟩)), (s33), (s34), (s41), (s42), rfl, B, HQ, ?_, ?_, ?_, ?_, ?_, ?_, ?_, ?_⟩
        · rw [E 6 (by decide), E 18 (by decide)]; exact F6
        · rw [E 7 (by decide)]; exact F7
        · rw [E 14 (by decide), E 18 (by decide)]; exact F14
        · rw [E 15 (by decide)]; exact F15
        · rw [E 16 (by decide), E 18 (by decide)]; exact F16
        · intro _; rw [E 19 (by decide), h19]; exact ⟨_, rfl, hz, Bk.new _ _ _⟩
        · rw [E 18 (by decide), E 7 (by decide), E 15 (by decide), E 16 (by decide)]; exact F18
        · rw [E 19 (by decide)]; exact fun h => absurd h (by rw [h19]; simp)
      · have E : ∀ j, j ≠ 18 → (listed.setIfInBounds 18 true).getD j false = listed.getD j false := fun j hj => getD_set_ne false (Ne.symm hj)
        cases hi
        have HQ : ∀ j ∈ [0, 1, 2, 3, 4, 5, 8, 9, 10, 11, 12, 13], (listed.setIfInBounds 18 true).getD j false = true := fun j hj => by rw [E j (by rintro rfl; simp at hj)]; exact hqs j hj
        have h16 := hpre ⟨16, .data⟩ (by simp) rfl
        have h7 := hpre ⟨7, .data⟩ (by simp) rfl
        have h15 := hpre ⟨15, .chain⟩ (by simp) rfl
        obtain ⟨g, rfl, hg, Kg⟩ := F16 h16
        have e34 := F7 h7
        subst e34
        have e42 := F15 h15
        subst e42
        have l32 := length_sum32 x
        clear F7 F15
        have hcan : canAt w ⟨g, 0, none⟩ 32 = true := Kg.can (by split <;> simp [length_sum32])
        refine inv_op (by rfl) rfl (fun Q' hQ' => ?_)
        go_wp2_with fail
        refine ⟨(.pointer (some ⟨g, 0, none⟩)), (s9), (s33), (A8 (sum32 x)), (s41), (A8 (sum64 x)), rfl, below_putAt B hg _, HQ, ?_, ?_, ?_, ?_, ?_, ?_, ?_, ?_⟩
        · intro _ h; simp [hsz] at h
        · intro _; rfl
        · intro _ h; simp [hsz] at h
        · intro _; rfl
        · intro _; refine ⟨g, rfl, hg, ?_⟩; rw [if_pos (by simp [hsz])]; exact Kg.puts (by split <;> simp [length_sum32])
        · rw [E 17 (by decide), E 19 (by decide)]; intro h; obtain ⟨g2, e1, e2, e3⟩ := F17 h; exact ⟨g2, e1, e2, e3.putFar (Ne.symm (Kg.apart e3 (by decide))) _⟩
        · intro _; rw [E 7 (by decide), E 15 (by decide), E 16 (by decide)]; exact ⟨h7, h15, h16⟩
        · rw [E 19 (by decide), E 17 (by decide)]; exact F19
      · have E : ∀ j, j ≠ 19 → (listed.setIfInBounds 19 true).getD j false = listed.getD j false := fun j hj => getD_set_ne false (Ne.symm hj)
        cases hi
        have HQ : ∀ j ∈ [0, 1, 2, 3, 4, 5, 8, 9, 10, 11, 12, 13], (listed.setIfInBounds 19 true).getD j false = true := fun j hj => by rw [E j (by rintro rfl; simp at hj)]; exact hqs j hj
        have h17 := hpre ⟨17, .data⟩ (by simp) rfl
        have h15 := hpre ⟨15, .data⟩ (by simp) rfl
        have h18 := hpre ⟨18, .chain⟩ (by simp) rfl
        obtain ⟨g, rfl, hg, Kg⟩ := F17 h17
        have e42 := F15 h15
        subst e42
        have e34 := F7 (F18 h18).1
        subst e34
        have l64 := length_sum64 x
        clear F7 F15
        have hcan : canAt w ⟨g, 0, none⟩ 64 = true := Kg.can (by split <;> simp [length_sum64])
        refine inv_op (by rfl) rfl (fun Q' hQ' => ?_)
        go_wp2_with fail
        refine ⟨(s8), (.pointer (some ⟨g, 0, none⟩)), (s33), (A8 (sum32 x)), (s41), (A8 (sum64 x)), rfl, below_putAt B hg _, HQ, ?_, ?_, ?_, ?_, ?_, ?_, ?_, ?_⟩
        · rw [E 18 (by decide), h18]; intro _ h; cases h
        · intro _; rfl
        · rw [E 18 (by decide), h18]; intro _ h; cases h
        · intro _; rfl
        · rw [E 16 (by decide), E 18 (by decide)]; intro h; obtain ⟨g2, e1, e2, e3⟩ := F16 h; exact ⟨g2, e1, e2, e3.putFar (Ne.symm (Kg.apart e3 (by decide))) _⟩
        · intro _; refine ⟨g, rfl, hg, ?_⟩; rw [if_pos (by simp [hsz])]; exact Kg.puts (by split <;> simp [length_sum64])
        · rw [E 18 (by decide), E 7 (by decide), E 15 (by decide), E 16 (by decide)]; exact F18
        · intro _; rw [E 17 (by decide)]; exact h17
    case ende =>
      intro listed ac w5 hI hall
      obtain ⟨s8, s9, s33, s34, s41, s42, rfl, B, hqs, F6, F7, F14, F15, F16, F17, F18, F19⟩ := hI
      have l32 := length_sum32 x
      have l64 := length_sum64 x
      obtain ⟨g8, rfl, hg8, K5⟩ := F16 (hall 16 (by simp))
      obtain ⟨g9, rfl, hg9, V5⟩ := F17 (hall 17 (by simp))
      rw [if_pos (hall 18 (by simp))] at K5
      rw [if_pos (hall 19 (by simp))] at V5
      have z8 := K5.lt
      have z9 := V5.lt
      have BW := below_two hb1 B hb1.size
      have By5 : By w5 0 w5.heap.size (.slice A m c) x := (b1.below B).more B.size
      have hx0 : x.length ≤ 1099511627776 := by omega
      have HHs : Hid (sum32 x = sum32 x) := Lib.hid rfl
      generalize hH : sum32 x = H at *
      generalize hG : sum64 x = G at *
      have HH := Lib.hid hH
      have HG := Lib.hid hG
      clear hH hG F6 F7 F14 F15 F16 F17 F18 F19 hqs hall B bt bd S0 HHs
      go_wp2_with fail
      refine held_begin (fun W => Below w5.heap.size w5 W) (by kernel_rfl) ?_
      have S0 : Below w5.heap.size w5 w5.drew := (Below.refl _ _).drew
      refine held_quiet (A := ?A7) [0, 1, 2] (by kernel_rfl) (by kernel_rfl) rfl (by kernel_rfl) (by kernel_rfl) S0 (h := fun W hW => ?h7) (hr := ?r7)
      case h7 =>
        have r1 := (K5.below hW (by omega)).rows
        rw [length_c8, l32] at r1
        simp only [pick, List.getElem?_cons_zero, List.getElem?_cons_succ]
        repeat (go_big_quiet_step (fail))
        refine wpQuiet_nil ?_
        rfl
      case r7 =>
        refine held_one 3 (by kernel_rfl) (by rfl) (by rfl) (fun Q' hQ' => ?_)
        dsimp only [bare]
        go_wp2_with fail
        refine (digest32 _ x w5.drew By5 hx0).mono ?_
        rintro e w6 ⟨u, rfl, hu, h6⟩
        have S6 : Below w5.heap.size w5 w6 := S0.trans h6
        rw [HH.out] at hu
        obtain ⟨gu, ou, cu, rfl, _, _, _, hgu, hru⟩ := hu.by_.row (by omega)
        rw [l32] at hru ⊢
        clear hu h6
        go_wp2_with fail
        refine hQ' _ _ S6 ?_
        clear hQ'
        refine held_one 4 (by kernel_rfl) (by rfl) (by rfl) (fun Q' hQ' => ?_)
        dsimp only [bare]
        go_wp2_with fail
        refine hQ' _ _ S6 ?_
        clear hQ'
        clear hru
        refine held_one 5 (by kernel_rfl) (by rfl) (by rfl) (fun Q' hQ' => ?_)
        dsimp only [bare]
        go_wp2_with fail
        refine hQ' _ _ S6 ?_
        clear hQ'
        refine held_one 6 (by kernel_rfl) (by rfl) (by rfl) (fun Q' hQ' => ?_)
        dsimp only [bare]
        go_wp2_with fail
        refine hQ' _ _ S6 ?_
        clear hQ'
        refine held_quiet (A := ?A8) [7, 8, 9] (by kernel_rfl) (by kernel_rfl) rfl (by kernel_rfl) (by kernel_rfl) S6 (h := fun W hW => ?h8) (hr := ?r8)
        case h8 =>
          have r1 := (V5.below hW (by omega)).rows
          rw [length_c8, l64] at r1
          simp only [List.append_eq, List.nil_append, List.cons_append, pick, List.getElem?_cons_zero, List.getElem?_cons_succ]
          repeat (go_big_quiet_step (fail))
          refine wpQuiet_nil ?_
          rfl
        case r8 =>
          refine held_one 10 (by kernel_rfl) (by rfl) (by rfl) (fun Q' hQ' => ?_)
          dsimp only [bare]
          go_wp2_with fail
          have y1 : By w6 0 w6.heap.size (.slice A m c) x := (By5.below S6).more S6.size
          refine (digest64 _ x w6 y1 hx0).mono ?_
          rintro e w7 ⟨u, rfl, hu, h7⟩
          have S7 : Below w5.heap.size w5 w7 := below_two S6 h7 S6.size
          rw [HG.out] at hu
          obtain ⟨gv, ov, cv, rfl, _, _, _, hgv, hrv⟩ := hu.by_.row (by omega)
          rw [l64] at hrv ⊢
          clear hu h7
          go_wp2_with fail
          refine hQ' _ _ S7 ?_
          clear hQ'
          refine held_one 11 (by kernel_rfl) (by rfl) (by rfl) (fun Q' hQ' => ?_)
          dsimp only [bare]
          go_wp2_with fail
          refine hQ' _ _ S7 ?_
          clear hQ'
          clear hrv
          refine held_one 12 (by kernel_rfl) (by rfl) (by rfl) (fun Q' hQ' => ?_)
          dsimp only [bare]
          go_wp2_with fail
          refine hQ' _ _ S7 ?_
          clear hQ'
          refine held_one 13 (by kernel_rfl) (by rfl) (by rfl) (fun Q' hQ' => ?_)
          dsimp only [bare]
          go_wp2_with fail
          refine hQ' _ _ S7 ?_
          clear hQ'
          refine held_one 14 (by kernel_rfl) (by rfl) (by rfl) (fun Q' hQ' => ?_)
          dsimp only [bare]
          go_wp2_with fail
          refine hQ' _ _ S7 ?_
          clear hQ'
          refine held_quiet (A := ?A9) [15, 16, 17, 18, 19] (by kernel_rfl) (by kernel_rfl) rfl (by kernel_rfl) (by kernel_rfl) S7 (h := fun W hW => ?h9) (hr := ?r9)
          case h9 =>
            have hs1 : ∀ raw, strOp W raw (.slice A m c) = .ok (.value (S8 x)) W := fun raw => strOp_by (By5.below hW) raw
            simp only [List.append_eq, List.nil_append, List.cons_append, pick, List.getElem?_cons_zero, List.getElem?_cons_succ]
            repeat (go_big_quiet_step (fail))
            refine wpQuiet_nil ?_
            rfl
          case r9 =>
            refine held_one 20 (by kernel_rfl) (by rfl) (by rfl) (fun Q' hQ' => ?_)
            dsimp only [bare]
            go_wp2_with fail
            refine hQ' _ _ S7 ?_
            clear hQ'
            refine held_end (by kernel_rfl) ?_
            go_wp2_with fail
            go_ret
            exact ⟨rfl, BW.trans (S7.mono BW.size)⟩
end Go.Proofs.Ytpalomkcgfalnaa
