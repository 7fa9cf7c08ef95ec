/- witanref10: Part.Root. -/
import Derived.Test.YtlegpkdighoflaaRGet
import Derived.Test.YtlegpkdighoflaaME
import Derived.Test.YtlegpkdighoflaaWit
set_option linter.unusedVariables false
set_option linter.unusedSimpArgs false
namespace Go.Proofs.Ytlegpkdighoflaa
open Go Go.RowKit Sh
/-- The world behind the first two regions: the result's cell, and the node's copy. -/
def rrW (w : World) (x : NV) : World := putAt ((w.alloc (Obj.cells (c8 (z8 32)).toArray 24)).alloc (Obj.cells ndz.cells.toArray 67)) ⟨w.heap.size + 1, 0, none⟩ x.cells
theorem rrW_below (w : World) (x : NV) : Below w.heap.size w (rrW w x) := below_putAt (((Below.refl _ _).alloc (Nat.le_refl _) _).alloc (by simp) _) (by simp) _
theorem rrW_res (w : World) (x : NV) : Bk (rrW w x) w.heap.size 24 (c8 (z8 32)) := ((Bk.new w _ _).alloc _).putFar (by simp) _
theorem rrW_nd (w : World) {x : NV} (h : x.Ok) : ND (rrW w x) (w.heap.size + 1) [x] [] := by
  refine ⟨by simpa using h, ?_⟩
  have h1 : Bk ((w.alloc (Obj.cells (c8 (z8 32)).toArray 24)).alloc (Obj.cells ndz.cells.toArray 67)) (w.heap.size + 1) 67 ndz.cells := by simpa using Bk.new (w.alloc (Obj.cells (c8 (z8 32)).toArray 24)) 67 ndz.cells
  simpa [nflat, rrW] using h1.puts (vs := x.cells) (by rw [NV.len h, NV.len ndz_ok])
theorem rrW_can (w : World) : canAt ((w.alloc (Obj.cells (c8 (z8 32)).toArray 24)).alloc (Obj.cells ndz.cells.toArray 67)) ⟨w.heap.size + 1, 0, none⟩ 67 = true := by
  have h1 : Bk ((w.alloc (Obj.cells (c8 (z8 32)).toArray 24)).alloc (Obj.cells ndz.cells.toArray 67)) (w.heap.size + 1) 67 ndz.cells := by simpa using Bk.new (w.alloc (Obj.cells (c8 (z8 32)).toArray 24)) 67 ndz.cells
  exact h1.can (by rw [NV.len ndz_ok]; omega)
section
variable (gp gn c : Nat) (nds : List NV) (i : Nat) (w : World) (hs : PS w gp gn nds c) (x : NV) (hx : nds[i]? = some x)
include hs hx
set_option maxRecDepth 100000 in
theorem rroot_e (hk : x.kind = 0) : Calls Try.prog 9 #[.pointer (some ⟨gp, 0, none⟩), .int .i64 (i : Int)] w fun e w' => e = .returned (A8 Pt.e.root) ∧ Below w.heap.size w w' := by
  obtain ⟨tl, hb, hnd⟩ := hs
  have hil : i < nds.length := (List.getElem?_eq_some_iff.1 hx).1
  have hli : (i : Int) < (nds.length : Int) := by omega
  have hxok := hnd.1 x (List.mem_of_getElem? hx)
  have hxl := NV.len hxok
  have hxr := hnd.row hx
  have p0 := hb.at_ (i := 0) rfl
  have zp := hb.lt
  have zn := hnd.lt
  have kc := rrW_can w
  have N1 := rrW_nd w hxok
  have n0 := N1.kind (i := 0) (x := x) rfl
  rw [hk] at n0
  have R1 := rrW_res w x
  have B1 := rrW_below w x
  have hcan : canAt (rrW w x) ⟨w.heap.size, 0, none⟩ 32 = true := R1.can (by simp)
  simp only [Nat.zero_mul] at n0
  unfold rrW at n0 hcan
  go_enter Try.func9, Try.ntmps9
  go_wp2_with fail
  refine bodyPost_ret (results_row rfl _ _ _ _ _ _ rfl (R1.puts (vs := c8 (z8 32)) (by simp)) Try.underlying24 rfl (by simp [info_h32])) rfl ⟨rfl, below_putAt B1 (Nat.le_refl _) _⟩
set_option maxRecDepth 100000 in
theorem rroot_hd (h : List UInt8) (hk : x.kind = 3) (hv : x.v = h) : Calls Try.prog 9 #[.pointer (some ⟨gp, 0, none⟩), .int .i64 (i : Int)] w fun e w' => e = .returned (A8 (Pt.hd h).root) ∧ Below w.heap.size w w' := by
  obtain ⟨tl, hb, hnd⟩ := hs
  have hil : i < nds.length := (List.getElem?_eq_some_iff.1 hx).1
  have hli : (i : Int) < (nds.length : Int) := by omega
  have hxok := hnd.1 x (List.mem_of_getElem? hx)
  have hxl := NV.len hxok
  have hxr := hnd.row hx
  have p0 := hb.at_ (i := 0) rfl
  have zp := hb.lt
  have zn := hnd.lt
  have kc := rrW_can w
  have N1 := rrW_nd w hxok
  have n0 := N1.kind (i := 0) (x := x) rfl
  have n2 := N1.value (i := 0) (x := x) rfl
  rw [hk] at n0
  rw [hv] at n2
  have hhl : h.length = 32 := by rw [← hv]; exact hxok.2
  have R1 := rrW_res w x
  have B1 := rrW_below w x
  have hcan : canAt (rrW w x) ⟨w.heap.size, 0, none⟩ 32 = true := R1.can (by simp)
  simp only [Nat.zero_mul, Nat.zero_add] at n0 n2
  unfold rrW at n0 n2 hcan
  clear hv hk
  go_enter Try.func9, Try.ntmps9
  go_wp2_with fail
  refine bodyPost_ret (results_row rfl _ _ _ _ _ _ rfl (R1.puts (vs := c8 h) (by simp [hhl])) Try.underlying24 rfl (by simp [info_h32, hhl])) rfl ⟨rfl, below_putAt B1 (Nat.le_refl _) _⟩
set_option maxRecDepth 100000 in
theorem rroot_lf (k v : List UInt8) (hk : x.kind = 1) (hxk : x.k = k) (hxv : x.v = v) : Calls Try.prog 9 #[.pointer (some ⟨gp, 0, none⟩), .int .i64 (i : Int)] w fun e w' => e = .returned (A8 (Pt.lf k v).root) ∧ Below w.heap.size w w' := by
  obtain ⟨tl, hb, hnd⟩ := hs
  have hil : i < nds.length := (List.getElem?_eq_some_iff.1 hx).1
  have hli : (i : Int) < (nds.length : Int) := by omega
  have hxok := hnd.1 x (List.mem_of_getElem? hx)
  have hxl := NV.len hxok
  have hxr := hnd.row hx
  have p0 := hb.at_ (i := 0) rfl
  have zp := hb.lt
  have zn := hnd.lt
  have kc := rrW_can w
  have N1 := rrW_nd w hxok
  have n0 := N1.kind (i := 0) (x := x) rfl
  rw [hk] at n0
  have hkl : k.length = 32 := by rw [← hxk]; exact hxok.1
  have hvl : v.length = 32 := by rw [← hxv]; exact hxok.2
  have R0' := rrW_res w x
  have B0 := rrW_below w x
  have hroot : sum32 [[0], k, v].flatten = (Pt.lf k v).root := by simp [Pt.root]
  have Hroot := Lib.hid hroot
  have hrl := Pt.root_length (p := .lf k v) ⟨hkl, hvl⟩
  generalize (Pt.lf k v).root = rt at *
  simp only [Nat.zero_mul] at n0
  unfold rrW at n0
  clear hroot hk
  obtain ⟨W0, hW0⟩ : ∃ y, y = rrW w x := ⟨_, rfl⟩
  rw [← hW0] at R0' B0 N1
  go_enter Try.func9, Try.ntmps9
  go_wp2_with fail
  change (Code.wp _ _ _ _ (rrW w x))
  rw [← hW0]
  clear hW0 n0 kc hxr p0
  have S0 : Below W0.heap.size W0 W0.drew := (Below.refl _ _).drew
  have z0 : w.heap.size ≤ W0.heap.size := by have := R0'.lt; omega
  refine held_begin (fun W => Below w.heap.size W0 W) (by kernel_rfl) ?_
  refine held_quiet (A := ?A1) [1, 2, 3, 4] (by kernel_rfl) (by kernel_rfl) rfl (by kernel_rfl) (by kernel_rfl) (S0.mono z0) (h := fun W hW => ?h1) (hr := ?r1)
  case h1 =>
    simp only [pick, List.getElem?_cons_zero, List.getElem?_cons_succ]
    repeat (go_big_quiet_step (fail))
    refine wpQuiet_nil ?_
    rfl
  case r1 =>
    refine held_one 0 (by kernel_rfl) (by rfl) (by rfl) (fun Q' hQ' => ?_)
    dsimp only [bare]
    go_wp2_with fail
    obtain ⟨W1, hW1⟩ : ∃ x, x = (W0.alloc (Obj.cells #[.int .u8 0] 5)).drew := ⟨_, rfl⟩
    rw [← hW1]
    have S1 : Below W0.heap.size W0 W1 := by rw [hW1]; exact ((Below.refl _ _).alloc (Nat.le_refl _) _).drew
    have y0 : By W1 0 W1.heap.size (.slice (some ⟨W0.heap.size, 0, none⟩) 1 1) [0] := by rw [hW1]; exact (By.build W0 5 (0, 0) [0] (by simp)).more (by simp)
    refine hQ' _ _ (S1.mono z0) ?_
    clear hQ' hW1
    refine held_one 5 (by kernel_rfl) (by rfl) (by rfl) (fun Q' hQ' => ?_)
    dsimp only [bare]
    go_wp2_with fail
    obtain ⟨W2, hW2⟩ : ∃ x, x = W1.alloc (Obj.cells #[.slice (some ⟨W0.heap.size, 0, none⟩) 1 1, .slice (some ⟨w.heap.size + 1, 1, none⟩) 32 32, .slice (some ⟨w.heap.size + 1, 33, none⟩) 32 32] 22) := ⟨_, rfl⟩
    rw [← hW2]
    have P1 := N1.below S1 N1.lt
    have yk : By W1 0 W1.heap.size (.slice (some ⟨w.heap.size + 1, 1, none⟩) 32 32) k := by have h := P1.key (i := 0) (x := x) rfl; rw [hxk] at h; exact By.of_row (by simpa using h) P1.lt (by omega)
    have yv : By W1 0 W1.heap.size (.slice (some ⟨w.heap.size + 1, 33, none⟩) 32 32) v := by have h := P1.value (i := 0) (x := x) rfl; rw [hxv] at h; exact By.of_row (by simpa using h) P1.lt (by omega)
    have p2 : Parts W2 W2.heap.size (.slice (some ⟨W1.heap.size, 0, none⟩) 3 3) [[0], k, v] := by
      rw [hW2]
      have := Parts.three W1 22 _ _ _ _ _ _ y0 yk yv
      simpa using this
    have S2 : Below W0.heap.size W0 W2 := by rw [hW2]; exact S1.alloc S1.size _
    refine hQ' _ _ (S2.mono z0) ?_
    clear hQ' hW2
    refine held_one 6 (by kernel_rfl) (by rfl) (by rfl) (fun Q' hQ' => ?_)
    dsimp only [bare]
    go_wp2_with fail
    refine (refsum_any _ [[0], k, v] W2 p2 (by simp [hkl, hvl])).mono ?_
    rintro e W3 ⟨rfl, h3⟩
    rw [Hroot.out]
    have S3 := below_two S2 h3 S2.size
    go_wp2_with fail
    refine hQ' _ _ (S3.mono z0) ?_
    clear hQ'
    have R3 := R0'.below S3 R0'.lt
    have hcan : canAt W3 ⟨w.heap.size, 0, none⟩ 32 = true := R3.can (by simp)
    refine held_one 7 (by kernel_rfl) (by rfl) (by rfl) (fun Q' hQ' => ?_)
    dsimp only [bare]
    go_wp2_with fail
    refine hQ' _ _ (below_putAt (S3.mono z0) (Nat.le_refl _) _) ?_
    clear hQ'
    refine held_end (by kernel_rfl) ?_
    go_wp2_with fail
    exact bodyPost_ret (results_row rfl _ _ _ _ _ _ rfl (R3.puts (vs := c8 rt) (by simp [hrl])) Try.underlying24 rfl (by simp [info_h32, hrl])) rfl ⟨rfl, below_putAt (below_two B0 S3 B0.size) (by simp) _⟩
set_option maxRecDepth 100000 in
set_option maxHeartbeats 4000000 in
theorem rroot_nd (l r : Pt) (a b : Nat) (hk : x.kind = 2) (hxa : x.l = (a : Int)) (hxb : x.r = (b : Int)) (hl : l.Wf) (hr : r.Wf)
    (IHl : ∀ W, PS W gp gn nds c → Calls Try.prog 9 #[.pointer (some ⟨gp, 0, none⟩), .int .i64 (a : Int)] W fun e w' => e = .returned (A8 l.root) ∧ Below W.heap.size W w')
    (IHr : ∀ W, PS W gp gn nds c → Calls Try.prog 9 #[.pointer (some ⟨gp, 0, none⟩), .int .i64 (b : Int)] W fun e w' => e = .returned (A8 r.root) ∧ Below W.heap.size W w') :
    Calls Try.prog 9 #[.pointer (some ⟨gp, 0, none⟩), .int .i64 (i : Int)] w fun e w' => e = .returned (A8 (Pt.nd l r).root) ∧ Below w.heap.size w w' := by
  have hs' := hs
  obtain ⟨tl, hb, hnd⟩ := hs
  have hil : i < nds.length := (List.getElem?_eq_some_iff.1 hx).1
  have hli : (i : Int) < (nds.length : Int) := by omega
  have hxok := hnd.1 x (List.mem_of_getElem? hx)
  have hxl := NV.len hxok
  have hxr := hnd.row hx
  have p0 := hb.at_ (i := 0) rfl
  have zp := hb.lt
  have zn := hnd.lt
  have kc := rrW_can w
  have N1 := rrW_nd w hxok
  have n0 := N1.kind (i := 0) (x := x) rfl
  rw [hk] at n0
  have R0' := rrW_res w x
  have B0 := rrW_below w x
  have hroot : sum32 [[1], l.root, r.root].flatten = (Pt.nd l r).root := by simp [Pt.root]
  have Hroot := Lib.hid hroot
  have hrl := Pt.root_length (p := .nd l r) ⟨hl, hr⟩
  have hl1 := Pt.root_length hl
  have hl2 := Pt.root_length hr
  generalize (Pt.nd l r).root = rt at *
  generalize l.root = rl at *
  generalize r.root = rr at *
  simp only [Nat.zero_mul] at n0
  unfold rrW at n0
  clear hroot hk
  obtain ⟨W0, hW0⟩ : ∃ y, y = rrW w x := ⟨_, rfl⟩
  rw [← hW0] at R0' B0 N1
  have hs0 := hs'.below B0
  go_enter Try.func9, Try.ntmps9
  go_wp2_with fail
  change (Code.wp _ _ _ _ (rrW w x))
  rw [← hW0]
  clear hW0 n0 kc hxr p0
  have S0 : Below W0.heap.size W0 W0.drew := (Below.refl _ _).drew
  refine held_begin (fun W => Below W0.heap.size W0 W) (by kernel_rfl) ?_
  refine held_quiet (A := ?A1) [0, 1, 2, 4, 5, 6] (by kernel_rfl) (by kernel_rfl) rfl (by kernel_rfl) (by kernel_rfl) S0 (h := fun W hW => ?h1) (hr := ?r1)
  case h1 =>
    have P1 := N1.below hW N1.lt
    have cl := P1.left (i := 0) (x := x) rfl
    have cr := P1.right (i := 0) (x := x) rfl
    rw [hxa] at cl
    rw [hxb] at cr
    simp only [Nat.zero_mul, Nat.zero_add] at cl cr
    simp only [pick, List.getElem?_cons_zero, List.getElem?_cons_succ]
    repeat (go_big_quiet_step (fail))
    refine wpQuiet_nil ?_
    rfl
  case r1 =>
    refine held_of_inv (InvQ [0, 1, 2, 4, 5, 6] 3 7 8 9 10 11 W0 (fun s3 s4 s7 s10 => ⟨(.pointer (some ⟨gp, 0, none⟩) :: .int .i64 (i : Int) :: undef :: undef :: .pointer (some ⟨w.heap.size, 0, none⟩) :: .pointer (some ⟨w.heap.size + 1, 0, none⟩) :: s3 :: s4 :: .pointer (some ⟨gp, 0, none⟩) :: .pointer (some ⟨gp, 0, none⟩) :: .pointer (some ⟨gp, 0, none⟩) :: .slice (some ⟨gn, 0, none⟩) nds.length c :: .int .i64 (i : Int) :: .pointer (some ⟨gn, i * 67, none⟩) :: ndV x :: .pointer (some ⟨w.heap.size + 1, 0, none⟩) :: .int .i64 2 :: .bool false :: .bool false :: undef :: undef :: undef :: undef :: undef :: undef :: undef :: .bool true :: .bool true :: .pointer (some ⟨gp, 0, none⟩) :: .pointer (some ⟨w.heap.size + 1, 65, none⟩) :: .int .i64 (a : Int) :: s7 :: .pointer (some ⟨gp, 0, none⟩) :: .pointer (some ⟨w.heap.size + 1, 66, none⟩) :: .int .i64 (b : Int) :: s10 :: undef :: undef :: undef :: undef :: undef :: undef :: undef :: undef :: undef :: undef :: []).toArray, []⟩) rl rr) (by kernel_rfl) (fun _ _ _ h => by obtain ⟨_, _, _, _, _, _, h, _⟩ := h; exact h) ?step15 ?end15 (by kernel_rfl) ?init15
    case init15 => exact ⟨by decide, _, _, _, _, rfl, S0, fun h => absurd h (by decide), fun h => absurd h (by decide), fun h => absurd h (by decide), fun h => absurd h (by decide), fun h => absurd h (by decide), fun h => absurd h (by decide), fun h => absurd h (by decide)⟩
    case step15 =>
      intro listed ac w i o hI hsz hi hun hpr K hK
      obtain ⟨hqs, s3, s4, s7, s10, rfl, B, F1, F3, F4, F5, F6, F7⟩ := hI
      have hil : i < 12 := by simpa using (List.getElem?_eq_some_iff.1 hi).1
      have hsz : listed.size = 12 := by simpa using hsz
      have hiq : i = 3 ∨ i = 7 ∨ i = 8 ∨ i = 9 ∨ i = 10 ∨ i = 11 := by
        apply Classical.byContradiction
        intro hn
        exact getD_clash hun (hqs i (by simp; omega))
      have hun2 : listed.getD i false = false := by
        cases h : listed.getD i false with
        | false => rfl
        | true => exact (getD_clash hun h).elim
      rcases hiq with rfl | rfl | rfl | rfl | rfl | rfl
      · cases hi
        refine inv_op (by rfl) rfl (fun Q' hQ' => ?_)
        go_wp2_with fail
        refine (IHl w (hs0.below B)).mono ?_
        rintro e w' ⟨rfl, hb⟩
        go_wp2_with fail
        refine invQ_mark (by omega) hqs ?_
        exact InvB.call1 (s3 := s7) (b1 := false) B F3 F4 F5 F6 F7 hb
      · cases hi
        refine inv_op (by rfl) rfl (fun Q' hQ' => ?_)
        go_wp2_with fail
        refine (IHr w (hs0.below B)).mono ?_
        rintro e w' ⟨rfl, hb⟩
        go_wp2_with fail
        refine invQ_mark (by omega) hqs ?_
        exact InvB.call3 (s4 := s10) (b3 := false) B F1 F4 F5 F6 F7 hb
      · cases hi
        refine inv_op (by rfl) rfl (fun Q' hQ' => ?_)
        go_wp2_with fail
        refine invQ_mark (by omega) hqs ?_
        rw [hun2] at F7
        exact InvB.alloc4 (s1 := s3) B F1 F3 F5 F7
      · cases hi
        refine inv_op (by rfl) rfl (fun Q' hQ' => ?_)
        go_wp2_with fail
        refine invQ_mark (by omega) hqs ?_
        rw [hun2] at F7
        exact InvB.alloc5 (s2 := s4) B F1 F3 F4 F7
      · cases hi
        have b1 := hpr ⟨3, .data⟩ (by simp) rfl
        have b4 := hpr ⟨8, .data⟩ (by simp) rfl
        obtain ⟨ga, rfl, hga, Ka⟩ := F4 b4
        obtain rfl := F1 b1
        rw [hun2] at Ka
        simp only [Bool.false_eq_true, if_false] at Ka
        have hca : canAt w ⟨ga, 0, none⟩ 32 = true := Ka.can (by simp)
        refine inv_op (by rfl) rfl (fun Q' hQ' => ?_)
        go_wp2_with fail
        refine invQ_mark (by omega) hqs ?_
        rw [b4] at F6 ⊢
        exact InvB.store6 (x := z8 32) (b6 := false) B hga Ka (by simp [hl1]) (fun _ => rfl) F3 F5 (F6 rfl) F7.2
      · cases hi
        have b3 := hpr ⟨7, .data⟩ (by simp) rfl
        have b5 := hpr ⟨9, .data⟩ (by simp) rfl
        obtain ⟨gb, rfl, hgb, Kb⟩ := F5 b5
        obtain rfl := F3 b3
        rw [hun2] at Kb
        simp only [Bool.false_eq_true, if_false] at Kb
        have hcb : canAt w ⟨gb, 0, none⟩ 32 = true := Kb.can (by simp)
        refine inv_op (by rfl) rfl (fun Q' hQ' => ?_)
        go_wp2_with fail
        refine invQ_mark (by omega) hqs ?_
        rw [b5] at F6 ⊢
        exact InvB.store7 (x := z8 32) (b7 := false) B hgb Kb (by simp [hl2]) F1 (fun _ => rfl) F4 (fun h => F6 h rfl) F7.1
    case end15 =>
      intro listed ac W hI hall
      obtain ⟨hqs, s3, s4, s7, s10, rfl, B, F1, F3, F4, F5, F6, F7⟩ := hI
      obtain ⟨ga, rfl, hga, Ka⟩ := F4 (hall 8 (by simp))
      obtain ⟨gb, rfl, hgb, Kb⟩ := F5 (hall 9 (by simp))
      rw [hall 10 (by simp)] at Ka
      rw [hall 11 (by simp)] at Kb
      obtain rfl := F1 (hall 3 (by simp))
      obtain rfl := F3 (hall 7 (by simp))
      simp only [if_true] at Ka Kb
      have R6 := R0'.below B R0'.lt
      have B6 := below_two B0 B B0.size
      have zga := Ka.lt
      have zgb := Kb.lt
      clear F1 F3 F4 F5 F6 F7 hqs hall S0 N1 hs0 hs'
      go_wp2_with fail
      have T0 : Below W.heap.size W W.drew := (Below.refl _ _).drew
      have z0 : w.heap.size ≤ W.heap.size := by have := R6.lt; omega
      refine held_begin (fun V => Below w.heap.size W V) (by kernel_rfl) ?_
      refine held_quiet (A := ?A2) [1, 2] (by kernel_rfl) (by kernel_rfl) rfl (by kernel_rfl) (by kernel_rfl) (T0.mono z0) (h := fun V hV => ?h2) (hr := ?r2)
      case h2 =>
        simp only [pick, List.getElem?_cons_zero, List.getElem?_cons_succ]
        repeat (go_big_quiet_step (fail))
        refine wpQuiet_nil ?_
        rfl
      case r2 =>
        refine held_one 0 (by kernel_rfl) (by rfl) (by rfl) (fun Q' hQ' => ?_)
        dsimp only [bare]
        go_wp2_with fail
        obtain ⟨W1, hW1⟩ : ∃ x, x = (W.alloc (Obj.cells #[.int .u8 1] 5)).drew := ⟨_, rfl⟩
        rw [← hW1]
        have S1 : Below W.heap.size W W1 := by rw [hW1]; exact ((Below.refl _ _).alloc (Nat.le_refl _) _).drew
        have y0 : By W1 0 W1.heap.size (.slice (some ⟨W.heap.size, 0, none⟩) 1 1) [1] := by rw [hW1]; exact (By.build W 5 (0, 0) [1] (by simp)).more (by simp)
        refine hQ' _ _ (S1.mono z0) ?_
        clear hQ' hW1
        refine held_one 3 (by kernel_rfl) (by rfl) (by rfl) (fun Q' hQ' => ?_)
        dsimp only [bare]
        go_wp2_with fail
        obtain ⟨W2, hW2⟩ : ∃ x, x = W1.alloc (Obj.cells #[.slice (some ⟨W.heap.size, 0, none⟩) 1 1, .slice (some ⟨ga, 0, none⟩) 32 32, .slice (some ⟨gb, 0, none⟩) 32 32] 22) := ⟨_, rfl⟩
        rw [← hW2]
        have yk : By W1 0 W1.heap.size (.slice (some ⟨ga, 0, none⟩) 32 32) rl := (Ka.below S1 Ka.lt).whole 32 hl1 (by have := S1.size; omega)
        have yv : By W1 0 W1.heap.size (.slice (some ⟨gb, 0, none⟩) 32 32) rr := (Kb.below S1 Kb.lt).whole 32 hl2 (by have := S1.size; omega)
        have p2 : Parts W2 W2.heap.size (.slice (some ⟨W1.heap.size, 0, none⟩) 3 3) [[1], rl, rr] := by
          rw [hW2]
          have := Parts.three W1 22 _ _ _ _ _ _ y0 yk yv
          simpa using this
        have S2 : Below W.heap.size W W2 := by rw [hW2]; exact S1.alloc S1.size _
        refine hQ' _ _ (S2.mono z0) ?_
        clear hQ' hW2
        refine held_one 4 (by kernel_rfl) (by rfl) (by rfl) (fun Q' hQ' => ?_)
        dsimp only [bare]
        go_wp2_with fail
        refine (refsum_any _ [[1], rl, rr] W2 p2 (by simp [hl1, hl2])).mono ?_
        rintro e W3 ⟨rfl, h3⟩
        rw [Hroot.out]
        have S3 := below_two S2 h3 S2.size
        go_wp2_with fail
        refine hQ' _ _ (S3.mono z0) ?_
        clear hQ'
        have R3 := R6.below S3 R6.lt
        have hcan : canAt W3 ⟨w.heap.size, 0, none⟩ 32 = true := R3.can (by simp)
        refine held_one 5 (by kernel_rfl) (by rfl) (by rfl) (fun Q' hQ' => ?_)
        dsimp only [bare]
        go_wp2_with fail
        refine hQ' _ _ (below_putAt (S3.mono z0) (Nat.le_refl _) _) ?_
        clear hQ'
        refine held_end (by kernel_rfl) ?_
        go_wp2_with fail
        exact bodyPost_ret (results_row rfl _ _ _ _ _ _ rfl (R3.puts (vs := c8 rt) (by simp [hrl])) Try.underlying24 rfl (by simp [info_h32, hrl])) rfl ⟨rfl, below_putAt (below_two B6 S3 B6.size) (by simp) _⟩
end
theorem rroot_any (gp gn c : Nat) (nds : List NV) (hn : nds.length ≤ 1000000) : ∀ (p : Pt), p.Wf → ∀ (i : Nat) (w : World), NAt nds i p → PS w gp gn nds c →
    Calls Try.prog 9 #[.pointer (some ⟨gp, 0, none⟩), .int .i64 (i : Int)] w fun e w' => e = .returned (A8 p.root) ∧ Below w.heap.size w w' := by
  intro p
  induction p with
  | e => rintro _ i w ⟨x, hx, hk⟩ hs; exact rroot_e gp gn c nds i w hs x hx hk
  | lf k v => rintro _ i w ⟨x, hx, hk, hxk, hxv⟩ hs; exact rroot_lf gp gn c nds i w hs x hx k v hk hxk hxv
  | hd h => rintro _ i w ⟨x, hx, hk, hxv⟩ hs; exact rroot_hd gp gn c nds i w hs x hx h hk hxv
  | nd l r ihl ihr =>
    rintro hw i w ⟨x, a, b, hx, hk, hxa, hxb, hal, har⟩ hs
    exact rroot_nd gp gn c nds i w hs x hx l r a b hk hxa hxb hw.1 hw.2 (fun W hW => ihl hw.1 a W hal hW) (fun W hW => ihr hw.2 b W har hW)
end Go.Proofs.Ytlegpkdighoflaa
