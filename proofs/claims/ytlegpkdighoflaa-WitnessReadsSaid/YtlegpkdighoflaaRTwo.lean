/- witanref10.two: the bytes of two leaves where they part. -/
import Derived.Test.YtlegpkdighoflaaWitP
set_option linter.unusedVariables false
set_option linter.unusedSimpArgs false
namespace Go.Proofs.Ytlegpkdighoflaa
open Go Go.RowKit Sh
theorem Own8.build' (w : World) (l : List UInt8) (hl : l.length ≤ 1000000) : Own8 (w.alloc (.cells (l.map v8).toArray 5)) w.heap.size (.slice (some ⟨w.heap.size, 0, none⟩) l.length l.length) l :=
  ⟨by simp, .inr ⟨w.heap.size, l.length, (l.map v8).toArray, rfl, Nat.le_refl _, heap_alloc_new w _, Nat.le_refl _, by simp only [maxLen]; omega, by simp, by simp [List.take_of_length_le]⟩⟩
/-- The bytes of two leaves that agree so far. -/
def twoB (k' v' k v : List UInt8) : Nat → Nat → List UInt8
  | 0, _ => []
  | f + 1, d => if kbit k' d = kbit k d then (if kbit k d then [2, 0] ++ twoB k' v' k v f (d + 1) else ([2] ++ twoB k' v' k v f (d + 1)) ++ [0])
      else if kbit k' d then (((([2, 1] ++ k) ++ v) ++ [1]) ++ k') ++ v' else (((([2, 1] ++ k') ++ v') ++ [1]) ++ k) ++ v
theorem twoB_length {k' v' k v : List UInt8} (h1 : k'.length = 32) (h2 : v'.length = 32) (h3 : k.length = 32) (h4 : v.length = 32) : ∀ (f d : Nat), (twoB k' v' k v f d).length ≤ 131 + 2 * f
  | 0, _ => by simp [twoB]
  | f + 1, d => by
    have ih := twoB_length h1 h2 h3 h4 f (d + 1)
    unfold twoB
    split
    · split <;> simp <;> omega
    · split <;> simp [h1, h2, h3, h4] <;> omega
theorem put_two {k' v' k v : List UInt8} (hk' : k'.length = 32) (hk : k.length = 32) (hne : k' ≠ k) : ∀ (f d : Nat), f + d = 256 → (∀ i, i < d → kbit k' i = kbit k i) → ∃ q, Pt.put k v f d (.lf k' v') = some q ∧ q.bytes = twoB k' v' k v f d := by
  intro f
  induction f with
  | zero =>
    intro d hd ha
    exact absurd (key_ext hk' hk fun i hi => ha i (by omega)) hne
  | succ f ih =>
    intro d hd ha
    by_cases hb : kbit k d = true <;> by_cases hc : kbit k' d = true
    · obtain ⟨q, h1, h2⟩ := ih (d + 1) (by omega) (fun i hi => by
        rcases Nat.lt_or_ge i d with h | h
        · exact ha i h
        · obtain rfl : i = d := by omega
          rw [hb, hc])
      exact ⟨.nd .e q, by simp [Pt.put, hne, hb, hc, h1], by simp [Pt.bytes, twoB, hb, hc, h2]⟩
    · refine ⟨.nd (.lf k' v') (.lf k v), by cases f <;> simp [Pt.put, hne, hb, hc], by simp [Pt.bytes, twoB, hb, hc]⟩
    · refine ⟨.nd (.lf k v) (.lf k' v'), by cases f <;> simp [Pt.put, hne, hb, hc], by simp [Pt.bytes, twoB, hb, hc]⟩
    · obtain ⟨q, h1, h2⟩ := ih (d + 1) (by omega) (fun i hi => by
        rcases Nat.lt_or_ge i d with h | h
        · exact ha i h
        · obtain rfl : i = d := by omega
          simp only [Bool.not_eq_true] at hb hc
          rw [hb, hc])
      exact ⟨.nd q .e, by simp [Pt.put, hne, hb, hc, h1], by simp [Pt.bytes, twoB, hb, hc, h2]⟩
set_option maxRecDepth 100000 in
set_option maxHeartbeats 2000000 in
theorem two_any (k' v' k v : List UInt8) (hk' : k'.length = 32) (hv' : v'.length = 32) (hk : k.length = 32) (hv : v.length = 32) (hne : k' ≠ k) : ∀ (f d : Nat), f + d = 256 → (∀ i, i < d → kbit k' i = kbit k i) → ∀ w : World,
    Calls Try.prog 25 #[A8 (pb (k', v')), A8 (pb (k, v)), .int .i64 (d : Int)] w fun e w' => ∃ u, e = .returned u ∧ By w' 0 w'.heap.size u (twoB k' v' k v f d) ∧ Below w.heap.size w w' := by
  intro f
  induction f with
  | zero =>
    intro d hd ha
    exact absurd (key_ext hk' hk fun i hi => ha i (by omega)) hne
  | succ f ih =>
    intro d hd ha w
    have hlen := twoB_length hk' hv' hk hv f (d + 1)
    have hl1 : (pb (k', v')).length = 64 := PrOk.len ⟨hk', hv'⟩
    have hl2 : (pb (k, v)).length = 64 := PrOk.len ⟨hk, hv⟩
    have hd2 : d < 256 := by omega
    obtain ⟨W0, hW0⟩ : ∃ y, y = (w.alloc (Obj.cells (c8 (pb (k', v'))).toArray 26)).alloc (Obj.cells (c8 (pb (k, v))).toArray 26) := ⟨_, rfl⟩
    have B0 : Below w.heap.size w W0 := by rw [hW0]; exact ((Below.refl _ _).alloc (Nat.le_refl _) _).alloc (by simp) _
    have K0 : Bk W0 w.heap.size 26 (c8 (pb (k', v'))) := by rw [hW0]; exact (Bk.new w _ _).alloc _
    have X0 : Bk W0 (w.heap.size + 1) 26 (c8 (pb (k, v))) := by rw [hW0]; simpa using Bk.new (w.alloc (Obj.cells (c8 (pb (k', v'))).toArray 26)) 26 (c8 (pb (k, v)))
    have r1 := pair_key K0 ⟨hk', hv'⟩
    have r2 := pair_key X0 ⟨hk, hv⟩
    have z1 := K0.lt
    have z2 := X0.lt
    have IH := Lib.hid (fun h => ih (d + 1) (by omega) h)
    clear ih
    go_enter Try.func25, Try.ntmps25
    go_wp2_with fail
    rw [← hW0]
    clear hW0
    refine wp_ext (by kernel_rfl) (by kernel_rfl) ?_
    repeat (go_big_quiet_step ((go_at_call 23; exact quiet_ext (fun W hW => refbit_any _ d (by assumption) hd2 W))))
    refine wpQuiet_nil ?_
    rintro w1 ⟨p1, hw1⟩
    have b1 : Below W0.heap.size W0 w1 := by rw [hw1]; exact below_ext W0 p1
    have K1 := K0.below b1 K0.lt
    have X1 := X0.below b1 X0.lt
    have B1 := below_two B0 b1 B0.size
    have zz1 := b1.size
    clear hw1 r1 r2 K0 X0 B0 b1
    by_cases hb : kbit k d = true <;> by_cases hc : kbit k' d = true
    · -- both sides right
      have hx : bitInt (kbit k' d) = 1 := by rw [hc]; rfl
      have hy : bitInt (kbit k d) = 1 := by rw [hb]; rfl
      have htw : twoB k' v' k v (f + 1) d = [2, 0] ++ twoB k' v' k v f (d + 1) := by simp [twoB, hb, hc]
      have HT := Lib.hid htw
      have hag : ∀ i, i < d + 1 → kbit k' i = kbit k i := fun i hi => by
        rcases Nat.lt_or_ge i d with h | h
        · exact ha i h
        · have hid : i = d := by omega
          rw [hid, hb, hc]
      have HC := Lib.hid (IH.out hag w1)
      have rA := pair_all K1 ⟨hk', hv'⟩
      have rB := pair_all X1 ⟨hk, hv⟩
      clear htw hag ha hb hc IH
      rw [hx, hy]
      clear hx hy
      go_wp2_with fail
      rw [show (d : Int) + 1 = ((d + 1 : Nat) : Int) from by omega]
      refine HC.out.mono ?_
      rintro e w2 ⟨u2, rfl, y2, b2⟩
      have B2 := below_two B1 b2 B1.size
      generalize twoB k' v' k v f (d + 1) = m at *
      clear HC rA rB K1 X1 B1 b2
      obtain ⟨W3, hW3⟩ : ∃ x, x = w2.alloc (Obj.cells #[.int .u8 2, .int .u8 0] 5) := ⟨_, rfl⟩
      have b3 : Below w2.heap.size w2 W3 := by rw [hW3]; exact (Below.refl _ _).alloc (Nat.le_refl _) _
      have O3 : Own8 W3 w2.heap.size (.slice (some ⟨w2.heap.size, 0, none⟩) 2 2) [2, 0] := by rw [hW3]; exact Own8.build' w2 [2, 0] (by simp)
      have y3 := y2.below b3
      have zz3 := b3.size
      go_wp2_with (at_builtin; rw [← hW3]; refine app8 _ w2.heap.size _ _ rfl _ _ rfl rfl O3 _ rfl m 0 _ y3 (by simp; omega) (by omega) ?_; intro A4 c4 w4 hc41 hc42 hO4 hB4 hg4 ha4; obtain ⟨u4, hu4⟩ : ∃ u, u = Value.slice A4 ([2, 0] ++ m).length c4 := ⟨_, rfl⟩; rw [← hu4] at hO4 ha4 ⊢; clear hu4 hc41 hc42)
      go_ret
      exact ⟨_, rfl, by rw [HT.out]; exact (hO4.by_).less (Nat.zero_le _), below_two B2 (b3.trans hB4) B2.size⟩
    · -- they part here
      have hx : bitInt (kbit k' d) = 0 := by rw [show kbit k' d = false by simpa using hc]; rfl
      have hy : bitInt (kbit k d) = 1 := by rw [hb]; rfl
      have htw : twoB k' v' k v (f + 1) d = (((([2, 1] ++ k') ++ v') ++ [1]) ++ k) ++ v := by simp [twoB, hb, hc]
      have HT := Lib.hid htw
      have rA := pair_all K1 ⟨hk', hv'⟩
      have rB := pair_all X1 ⟨hk, hv⟩
      clear htw ha hb hc IH
      rw [hx, hy]
      clear hx hy
      have KL := K1
      have KH := X1
      have B2 := B1
      obtain ⟨W3, hW3⟩ : ∃ x, x = w1.alloc (Obj.cells #[.int .u8 2, .int .u8 1] 5) := ⟨_, rfl⟩
      have b3 : Below w1.heap.size w1 W3 := by rw [hW3]; exact (Below.refl _ _).alloc (Nat.le_refl _) _
      have O3 : Own8 W3 w1.heap.size (.slice (some ⟨w1.heap.size, 0, none⟩) 2 2) [2, 1] := by rw [hW3]; exact Own8.build' w1 [2, 1] (by simp)
      have zz3 := b3.size
      have L3 := KL.below b3 KL.lt
      have H3 := KH.below b3 KH.lt
      have zl := KL.lt
      have zh := KH.lt
      have ya := By.of_row (pair_key L3 ⟨hk', hv'⟩) L3.lt (by omega)
      go_wp2_with (first
        | (at_builtin; rw [← hW3]; refine app8 _ w1.heap.size _ _ rfl _ _ rfl rfl O3 _ rfl k' 0 _ ya (by simp [hk']) (by omega) ?_; intro A4 c4 w4 hc41 hc42 hO4 hB4 hg4 ha4; obtain ⟨u4, hu4⟩ : ∃ u, u = Value.slice A4 ([2, 1] ++ k').length c4 := ⟨_, rfl⟩; rw [← hu4] at hO4 ha4 ⊢; clear hu4 hc41 hc42 hW3; have L4 := L3.below hB4 zl; have H4 := H3.below hB4 zh; have zz4 := hB4.size; have yb := By.of_row (pair_val L4 ⟨hk', hv'⟩) L4.lt (by omega))
        | (at_builtin; refine app8 _ w1.heap.size _ _ rfl _ _ rfl rfl hO4 _ rfl v' 0 _ yb (by simp [hk', hv']) (by omega) ?_; intro A5 c5 w5 hc51 hc52 hO5 hB5 hg5 ha5; obtain ⟨u5, hu5⟩ : ∃ u, u = Value.slice A5 (([2, 1] ++ k') ++ v').length c5 := ⟨_, rfl⟩; rw [← hu5] at hO5 ha5 ⊢; clear hu5 hc51 hc52; have H5 := H4.below hB5 zh; have zz5 := hB5.size; have O6 := hO5.alloc (Obj.cells #[.int .u8 1] 5); have y6 : By (w5.alloc (Obj.cells #[.int .u8 1] 5)) 0 (w5.heap.size + 1) (.slice (some ⟨w5.heap.size, 0, none⟩) 1 1) [1] := By.build w5 5 (0, 0) [1] (by simp))
        | (at_builtin; refine app8 _ w1.heap.size _ _ rfl _ _ rfl rfl O6 _ rfl [1] 0 _ y6 (by simp [hk', hv']) (by simp; omega) ?_; intro A7 c7 w7 hc71 hc72 hO7 hB7 hg7 ha7; obtain ⟨u7, hu7⟩ : ∃ u, u = Value.slice A7 ((([2, 1] ++ k') ++ v') ++ [1]).length c7 := ⟨_, rfl⟩; rw [← hu7] at hO7 ha7 ⊢; clear hu7 hc71 hc72; have b57 : Below w1.heap.size w5 w7 := ((Below.refl _ _).alloc (by omega) _).trans hB7; have H7 := H5.below b57 zh; have zz7 := b57.size; have yd := By.of_row (pair_key H7 ⟨hk, hv⟩) H7.lt (by omega); have zz7' : w1.heap.size ≤ w7.heap.size := by omega)
        | (at_builtin; refine app8 _ w1.heap.size _ _ rfl _ _ rfl rfl hO7 _ rfl k 0 _ yd (by simp [hk', hv', hk]) zz7' ?_; intro A8_ c8_ w8 hc81 hc82 hO8 hB8 hg8 ha8; obtain ⟨u8, hu8⟩ : ∃ u, u = Value.slice A8_ (((([2, 1] ++ k') ++ v') ++ [1]) ++ k).length c8_ := ⟨_, rfl⟩; rw [← hu8] at hO8 ha8 ⊢; clear hu8 hc81 hc82; have H8 := H7.below hB8 zh; have zz8 := hB8.size; have ye := By.of_row (pair_val H8 ⟨hk, hv⟩) H8.lt (by omega); have zz8' : w1.heap.size ≤ w8.heap.size := by omega)
        | (at_builtin; refine app8 _ w1.heap.size _ _ rfl _ _ rfl rfl hO8 _ rfl v 0 _ ye (by simp [hk', hv', hk, hv]) zz8' ?_; intro A9 c9 w9 hc91 hc92 hO9 hB9 hg9 ha9; obtain ⟨u9, hu9⟩ : ∃ u, u = Value.slice A9 ((((([2, 1] ++ k') ++ v') ++ [1]) ++ k) ++ v).length c9 := ⟨_, rfl⟩; rw [← hu9] at hO9 ha9 ⊢; clear hu9 hc91 hc92))
      go_ret
      exact ⟨_, rfl, by rw [HT.out]; exact (hO9.by_).less (Nat.zero_le _), below_two B2 ((((b3.trans hB4).trans hB5).trans b57).trans (hB8.trans hB9)) B2.size⟩
    · -- they part here, the first to the right
      have hx : bitInt (kbit k' d) = 1 := by rw [hc]; rfl
      have hy : bitInt (kbit k d) = 0 := by rw [show kbit k d = false by simpa using hb]; rfl
      have htw : twoB k' v' k v (f + 1) d = (((([2, 1] ++ k) ++ v) ++ [1]) ++ k') ++ v' := by simp [twoB, hb, hc]
      have HT := Lib.hid htw
      have rA := pair_all K1 ⟨hk', hv'⟩
      have rB := pair_all X1 ⟨hk, hv⟩
      clear htw ha hb hc IH
      rw [hx, hy]
      clear hx hy
      have hcA : canAt w1 ⟨w.heap.size, 0, none⟩ 64 = true := K1.can (by simp [hl1])
      have K2' := K1.puts (vs := c8 (pb (k, v))) (by simp [hl1, hl2])
      have X2' := X1.putFar (p := ⟨w.heap.size, 0, none⟩) (by simp) (c8 (pb (k, v)))
      have hcB : canAt (putAt w1 ⟨w.heap.size, 0, none⟩ (c8 (pb (k, v)))) ⟨w.heap.size + 1, 0, none⟩ 64 = true := X2'.can (by simp [hl2])
      obtain ⟨W2, hW2⟩ : ∃ y, y = putAt (putAt w1 ⟨w.heap.size, 0, none⟩ (c8 (pb (k, v)))) ⟨w.heap.size + 1, 0, none⟩ (c8 (pb (k', v'))) := ⟨_, rfl⟩
      have KL : Bk W2 w.heap.size 26 (c8 (pb (k, v))) := by rw [hW2]; exact K2'.putFar (by simp) _
      have KH : Bk W2 (w.heap.size + 1) 26 (c8 (pb (k', v'))) := by rw [hW2]; exact X2'.puts (by simp [hl1, hl2])
      have B2 : Below w.heap.size w W2 := by rw [hW2]; exact below_putAt (below_putAt B1 (Nat.le_refl _) _) (show w.heap.size ≤ w.heap.size + 1 by omega) _
      have sz2 : W2.heap.size = w1.heap.size := by rw [hW2]; simp
      obtain ⟨W3, hW3⟩ : ∃ x, x = W2.alloc (Obj.cells #[.int .u8 2, .int .u8 1] 5) := ⟨_, rfl⟩
      have b3 : Below W2.heap.size W2 W3 := by rw [hW3]; exact (Below.refl _ _).alloc (Nat.le_refl _) _
      have O3 : Own8 W3 W2.heap.size (.slice (some ⟨w1.heap.size, 0, none⟩) 2 2) [2, 1] := by rw [hW3, ← sz2]; exact Own8.build' W2 [2, 1] (by simp)
      have zz3 := b3.size
      have L3 := KL.below b3 KL.lt
      have H3 := KH.below b3 KH.lt
      have zl := KL.lt
      have zh := KH.lt
      have ya := By.of_row (pair_key L3 ⟨hk, hv⟩) L3.lt (by omega)
      go_wp2_with (first
        | (at_builtin; rw [← hW2, ← hW3]; refine app8 _ W2.heap.size _ _ rfl _ _ rfl rfl O3 _ rfl k 0 _ ya (by simp [hk]) (by omega) ?_; intro A4 c4 w4 hc41 hc42 hO4 hB4 hg4 ha4; obtain ⟨u4, hu4⟩ : ∃ u, u = Value.slice A4 ([2, 1] ++ k).length c4 := ⟨_, rfl⟩; rw [← hu4] at hO4 ha4 ⊢; clear hu4 hc41 hc42 hW3; have L4 := L3.below hB4 zl; have H4 := H3.below hB4 zh; have zz4 := hB4.size; have yb := By.of_row (pair_val L4 ⟨hk, hv⟩) L4.lt (by omega))
        | (at_builtin; refine app8 _ W2.heap.size _ _ rfl _ _ rfl rfl hO4 _ rfl v 0 _ yb (by simp [hk, hv]) (by omega) ?_; intro A5 c5 w5 hc51 hc52 hO5 hB5 hg5 ha5; obtain ⟨u5, hu5⟩ : ∃ u, u = Value.slice A5 (([2, 1] ++ k) ++ v).length c5 := ⟨_, rfl⟩; rw [← hu5] at hO5 ha5 ⊢; clear hu5 hc51 hc52; have H5 := H4.below hB5 zh; have zz5 := hB5.size; have O6 := hO5.alloc (Obj.cells #[.int .u8 1] 5); have y6 : By (w5.alloc (Obj.cells #[.int .u8 1] 5)) 0 (w5.heap.size + 1) (.slice (some ⟨w5.heap.size, 0, none⟩) 1 1) [1] := By.build w5 5 (0, 0) [1] (by simp))
        | (at_builtin; refine app8 _ W2.heap.size _ _ rfl _ _ rfl rfl O6 _ rfl [1] 0 _ y6 (by simp [hk, hv]) (by simp; omega) ?_; intro A7 c7 w7 hc71 hc72 hO7 hB7 hg7 ha7; obtain ⟨u7, hu7⟩ : ∃ u, u = Value.slice A7 ((([2, 1] ++ k) ++ v) ++ [1]).length c7 := ⟨_, rfl⟩; rw [← hu7] at hO7 ha7 ⊢; clear hu7 hc71 hc72; have b57 : Below W2.heap.size w5 w7 := ((Below.refl _ _).alloc (by omega) _).trans hB7; have H7 := H5.below b57 zh; have zz7 := b57.size; have yd := By.of_row (pair_key H7 ⟨hk', hv'⟩) H7.lt (by omega); have zz7' : W2.heap.size ≤ w7.heap.size := by omega)
        | (at_builtin; refine app8 _ W2.heap.size _ _ rfl _ _ rfl rfl hO7 _ rfl k' 0 _ yd (by simp [hk, hv, hk']) zz7' ?_; intro A8_ c8_ w8 hc81 hc82 hO8 hB8 hg8 ha8; obtain ⟨u8, hu8⟩ : ∃ u, u = Value.slice A8_ (((([2, 1] ++ k) ++ v) ++ [1]) ++ k').length c8_ := ⟨_, rfl⟩; rw [← hu8] at hO8 ha8 ⊢; clear hu8 hc81 hc82; have H8 := H7.below hB8 zh; have zz8 := hB8.size; have ye := By.of_row (pair_val H8 ⟨hk', hv'⟩) H8.lt (by omega); have zz8' : W2.heap.size ≤ w8.heap.size := by omega)
        | (at_builtin; refine app8 _ W2.heap.size _ _ rfl _ _ rfl rfl hO8 _ rfl v' 0 _ ye (by simp [hk, hv, hk', hv']) zz8' ?_; intro A9 c9 w9 hc91 hc92 hO9 hB9 hg9 ha9; obtain ⟨u9, hu9⟩ : ∃ u, u = Value.slice A9 ((((([2, 1] ++ k) ++ v) ++ [1]) ++ k') ++ v').length c9 := ⟨_, rfl⟩; rw [← hu9] at hO9 ha9 ⊢; clear hu9 hc91 hc92))
      go_ret
      exact ⟨_, rfl, by rw [HT.out]; exact (hO9.by_).less (Nat.zero_le _), below_two B2 ((((b3.trans hB4).trans hB5).trans b57).trans (hB8.trans hB9)) B2.size⟩
    · -- both sides left
      have hx : bitInt (kbit k' d) = 0 := by rw [show kbit k' d = false by simpa using hc]; rfl
      have hy : bitInt (kbit k d) = 0 := by rw [show kbit k d = false by simpa using hb]; rfl
      have htw : twoB k' v' k v (f + 1) d = ([2] ++ twoB k' v' k v f (d + 1)) ++ [0] := by simp [twoB, hb, hc]
      have HT := Lib.hid htw
      have hag : ∀ i, i < d + 1 → kbit k' i = kbit k i := fun i hi => by
        rcases Nat.lt_or_ge i d with h | h
        · exact ha i h
        · have hid : i = d := by omega
          rw [hid, show kbit k d = false by simpa using hb, show kbit k' d = false by simpa using hc]
      have HC := Lib.hid (IH.out hag w1)
      have rA := pair_all K1 ⟨hk', hv'⟩
      have rB := pair_all X1 ⟨hk, hv⟩
      clear htw hag ha hb hc IH
      rw [hx, hy]
      clear hx hy
      go_wp2_with fail
      rw [show (d : Int) + 1 = ((d + 1 : Nat) : Int) from by omega]
      refine HC.out.mono ?_
      rintro e w2 ⟨u2, rfl, y2, b2⟩
      have B2 := below_two B1 b2 B1.size
      generalize twoB k' v' k v f (d + 1) = m at *
      clear HC rA rB K1 X1 B1 b2
      obtain ⟨W3, hW3⟩ : ∃ x, x = w2.alloc (Obj.cells #[.int .u8 2] 5) := ⟨_, rfl⟩
      have b3 : Below w2.heap.size w2 W3 := by rw [hW3]; exact (Below.refl _ _).alloc (Nat.le_refl _) _
      have O3 : Own8 W3 w2.heap.size (.slice (some ⟨w2.heap.size, 0, none⟩) 1 1) [2] := by rw [hW3]; exact Own8.build' w2 [2] (by simp)
      have y3 := y2.below b3
      have zz3 := b3.size
      go_wp2_with (first
        | (at_builtin; rw [← hW3]; refine app8 _ w2.heap.size _ _ rfl _ _ rfl rfl O3 _ rfl m 0 _ y3 (by simp; omega) (by omega) ?_; intro A4 c4 w4 hc41 hc42 hO4 hB4 hg4 ha4; obtain ⟨u4, hu4⟩ : ∃ u, u = Value.slice A4 ([2] ++ m).length c4 := ⟨_, rfl⟩; rw [← hu4] at hO4 ha4 ⊢; clear hu4 hc41 hc42; have zz4 := hB4.size; have O5 := hO4.alloc (Obj.cells #[.int .u8 0] 5); have y5 : By (w4.alloc (Obj.cells #[.int .u8 0] 5)) 0 (w4.heap.size + 1) (.slice (some ⟨w4.heap.size, 0, none⟩) 1 1) [0] := By.build w4 5 (0, 0) [0] (by simp))
        | (at_builtin; refine app8 _ w2.heap.size _ _ rfl _ _ rfl rfl O5 _ rfl [0] 0 _ y5 (by simp; omega) (by simp; omega) ?_; intro A6 c6 w6 hc61 hc62 hO6 hB6 hg6 ha6; obtain ⟨u6, hu6⟩ : ∃ u, u = Value.slice A6 (([2] ++ m) ++ [0]).length c6 := ⟨_, rfl⟩; rw [← hu6] at hO6 ha6 ⊢; clear hu6 hc61 hc62))
      go_ret
      exact ⟨_, rfl, by rw [HT.out]; exact (hO6.by_).less (Nat.zero_le _), below_two B2 ((b3.trans hB4).trans (((Below.refl _ _).alloc (by omega) _).trans hB6)) B2.size⟩
end Go.Proofs.Ytlegpkdighoflaa
