/- witanlaw10.WitnessCuts answers true. -/
import Derived.Test.YtpalomkcgfalnaaWitK
import Derived.Test.YtpalomkcgfalnaaWitL
import Derived.Test.YtpalomkcgfalnaaWitM
import Derived.Test.YtpalomkcgfalnaaHeldMore
set_option linter.unusedVariables false
set_option linter.unusedSimpArgs false
namespace Go.Proofs.Ytpalomkcgfalnaa
open Go Go.RowKit Sh
theorem Hs.takes {w : World} {lo B : Nat} {A : Option Addr} {n c : Nat} {l : List (List UInt8)} (h : Hs w lo B (.slice A n c) l) {k : Nat} (hk : k ≤ n) : Hs w lo B (.slice A k c) (l.take k) := by
  obtain ⟨h0, A', c', hv, h1, h2, h3⟩ := h
  injection hv with e1 e2 e3
  subst e1 e2 e3
  have e : (l.take k).length = k := by simp; omega
  refine ⟨fun x hx => h0 x (List.mem_of_mem_take hx), A, c, by rw [e], by omega, h2, ?_⟩
  have hf : (l.take k).flatten = l.flatten.take (k * 32) := by
    have hl := length_hflat (l := l.take k) fun x hx => h0 x (List.mem_of_mem_take hx)
    rw [e] at hl
    have h4 : l.flatten = (l.take k).flatten ++ (l.drop k).flatten := by rw [← List.flatten_append, List.take_append_drop]
    rw [h4, ← hl, List.take_left]
  rw [hf]
  have := h3.take (k * 32)
  simpa [c8, List.map_take] using this
set_option maxRecDepth 100000 in
set_option maxHeartbeats 4000000 in
theorem witCuts_any (v : Value) (L : List Pr) (v2 : Value) (H : List (List UInt8)) (w : World) (hv : Ps w 0 w.heap.size v L) (hH : Hs w 0 w.heap.size v2 H) :
    Calls Try.prog 11 #[v, v2] w fun e w' => e = .returned (.bool true) ∧ Below w.heap.size w w' := by
  have hlok := hv.1
  have HPs0 := Lib.hid hv
  have HHs0 := Lib.hid hH
  obtain ⟨A2, c2, hv2, hc21, hc22⟩ := hH.form
  clear hv hH
  subst hv2
  go_enter Try.func11, Try.ntmps11
  go_wp2_with fail
  refine (first10 w).mono ?_
  rintro e w0 ⟨rfl, B0⟩
  go_wp2_with fail
  refine (grown_any v L w0 ((HPs0.out.below B0).more B0.size)).mono ?_
  rintro e w1 ⟨p, u1, rfl, hAt1, hPs1, b1⟩
  have okT : Okt (puts (L.take 25) .e) := Okt.puts (fun q hq => hlok q (List.mem_of_mem_take hq)) Okt.nil
  have lenT : (puts (L.take 25) .e).len ≤ 25 := by
    have := len_puts (l := L.take 25) (fun q hq => hlok q (List.mem_of_mem_take hq)) Okt.nil
    have h2 : (L.take 25).length ≤ 25 := by simp; omega
    simp only [Tr.len] at this
    omega
  generalize puts (L.take 25) .e = T at *
  have B1 := below_two B0 b1 B0.size
  obtain ⟨kn, hkn⟩ : ∃ kn, kn = min H.length 8 := ⟨_, rfl⟩
  have hmin : minI (H.length : Int) 8 = (kn : Int) := minI_eq (by split <;> omega)
  have hkn1 : kn ≤ H.length := by omega
  have hkn8 : kn ≤ 8 := by omega
  have hHk := (HHs0.out.below B1).more B1.size |>.takes hkn1
  have hkl : (H.take kn).length = kn := by simp; omega
  generalize H.take kn = K at *
  obtain ⟨W2, hW2⟩ : ∃ x, x = w1.alloc (Obj.cells #[.pointer p, .int .i64 0] 40) := ⟨_, rfl⟩
  have b2 : Below w1.heap.size w1 W2 := by rw [hW2]; exact (Below.refl _ _).alloc (Nat.le_refl _) _
  have T2 : Bk W2 w1.heap.size 40 [.pointer p, .int .i64 0] := by rw [hW2]; exact Bk.new w1 _ [_, _]
  have B2 := below_two B1 b2 B1.size
  have At2 := (hAt1.below b2).more b2.size
  have HPs2 := Lib.hid ((hPs1.below b2).more b2.size)
  have HHk2 := Lib.hid ((hHk.below b2).more b2.size)
  clear hkn hPs1 hHk hAt1 b1 b2
  go_wp2_with fail
  rw [← hW2]
  clear hW2
  obtain ⟨uk, huk⟩ : ∃ u, u = Value.slice A2 kn c2 := ⟨_, rfl⟩
  rw [← huk] at HHk2 ⊢
  clear huk
  refine (pcut_any T P0 okT (by omega) (.pointer p) uk K W2 (by omega) At2 HHk2.out).mono ?_
  have hvw := view_cut T K 0
  have hb0 : T.cutB K 0 = (T.cut K 0).bytes := rfl
  have HB := Lib.hid hb0
  clear hb0
  have hbl := cutB_size okT (by omega) K
  rw [HB.out] at hbl
  generalize T.cut K 0 = q at *
  have hqok := hvw.ok okT
  have HRT := Lib.hid hvw.root
  rintro e w3 ⟨rfl, b3⟩
  obtain ⟨W4, hW4⟩ : ∃ x, x = w3.alloc (Obj.cells #[q.val] 73) := ⟨_, rfl⟩
  have b4 : Below w3.heap.size w3 W4 := by rw [hW4]; exact (Below.refl _ _).alloc (Nat.le_refl _) _
  have Q4 : Bk W4 w3.heap.size 73 [q.val] := by rw [hW4]; exact Bk.new w3 _ [_]
  have b24 := below_two b3 b4 b3.size
  have T4 := T2.below b24 T2.lt
  have At4 := (At2.below b24).more b24.size
  have B4 := below_two B2 b24 B2.size
  have HPs4 := Lib.hid ((HPs2.out.below b24).more b24.size)
  have HHk4 := Lib.hid ((HHk2.out.below b24).more b24.size)
  clear b3 b4 b24 T2 At2 B2 HPs2 HHk2
  go_wp2_with fail
  rw [← hW4]
  clear hW4
  have hrl := T.root_length
  have zq := Q4.lt
  have zt := T4.lt
  have S4 : Below W4.heap.size W4 W4.drew := (Below.refl _ _).drew
  refine held_begin (fun W => Below W4.heap.size W4 W) (by kernel_rfl) ?_
  refine held_quiet (A := ?A1) [0, 3, 4] (by kernel_rfl) (by kernel_rfl) rfl (by kernel_rfl) (by kernel_rfl) S4 (h := fun W hW => ?h1) (hr := ?r1)
  case h1 =>
    have q0 : W.cell? ⟨w3.heap.size, 0, none⟩ = some q.val := (Q4.below hW zq).at_ rfl
    simp only [pick, List.getElem?_cons_zero, List.getElem?_cons_succ]
    repeat (go_big_quiet_step (fail))
    refine wpQuiet_nil ?_
    rfl
  case r1 =>
    refine held_one 1 (by kernel_rfl) (by rfl) (by rfl) (fun Q' hQ' => ?_)
    dsimp only [bare]
    go_wp2_with fail
    refine (pbytes_any q hqok.wf (by omega) W4.drew).mono ?_
    rintro e w5 ⟨u5, rfl, O5, b5⟩
    have S5 : Below W4.heap.size W4 w5 := S4.trans b5
    have Y5 : By w5 0 w5.heap.size u5 q.bytes := (O5.by_).less (Nat.zero_le _)
    clear O5
    go_wp2_with fail
    refine hQ' _ _ S5 ?_
    clear hQ'
    refine held_from S5 ?_
    refine held_quiet (A := ?A2) [2] (by kernel_rfl) (by kernel_rfl) rfl (by kernel_rfl) (by kernel_rfl) (Below.refl _ _) (h := fun W hW => ?h2) (hr := ?r2)
    case h2 =>
      have hs : ∀ raw, strOp W raw u5 = .ok (.value (S8 q.bytes)) W := fun raw => strOp_by (Y5.below hW) raw
      simp only [List.append_eq, List.nil_append, List.cons_append, pick, List.getElem?_cons_zero, List.getElem?_cons_succ]
      repeat (go_big_quiet_step (fail))
      refine wpQuiet_nil ?_
      rfl
    case r2 =>
      refine held_one 5 (by kernel_rfl) (by rfl) (by rfl) (fun Q' hQ' => ?_)
      dsimp only [bare]
      go_wp2_with fail
      refine (refcut_any T 0 P0 okT (by omega) (by omega) u1 uk K w5 (by omega) ((HPs4.out.below S5).more S5.size) ((HHk4.out.below S5).more S5.size)).mono ?_
      rw [HB.out]
      rintro e w6 ⟨u6, rfl, Y6, b6⟩
      go_wp2_with fail
      refine hQ' _ _ b6 ?_
      clear hQ'
      refine held_from b6 ?_
      have S6 : Below W4.heap.size W4 w6 := below_two S5 b6 S5.size
      refine held_quiet (A := ?A3) [6, 7, 8, 9, 11] (by kernel_rfl) (by kernel_rfl) rfl (by kernel_rfl) (by kernel_rfl) (Below.refl _ _) (h := fun W hW => ?h3) (hr := ?r3)
      case h3 =>
        have hs : ∀ raw, strOp W raw u6 = .ok (.value (S8 q.bytes)) W := fun raw => strOp_by (Y6.below hW) raw
        have hWb := below_two S6 hW S6.size
        have q0 : W.cell? ⟨w3.heap.size, 0, none⟩ = some q.val := (Q4.below hWb zq).at_ rfl
        have t0 : W.cell? ⟨w1.heap.size, 0, none⟩ = some (.pointer p) := (T4.below hWb zt).at_ rfl
        have t1 : W.cell? ⟨w1.heap.size, 1, none⟩ = some (.int .i64 0) := (T4.below hWb zt).at_ rfl
        clear hWb
        simp only [List.append_eq, List.nil_append, List.cons_append, pick, List.getElem?_cons_zero, List.getElem?_cons_succ]
        repeat (go_big_quiet_step (fail))
        refine wpQuiet_nil ?_
        rfl
      case r3 =>
        refine held_one 10 (by kernel_rfl) (by rfl) (by rfl) (fun Q' hQ' => ?_)
        dsimp only [bare]
        go_wp2_with fail
        refine (proots_any q hqok.wf w6).mono ?_
        rw [HRT.out]
        rintro e w7 ⟨rfl, b7⟩
        go_wp2_with fail
        refine hQ' _ _ b7 ?_
        clear hQ'
        have S7 := below_two S6 b7 S6.size
        refine held_one 12 (by kernel_rfl) (by rfl) (by rfl) (fun Q' hQ' => ?_)
        dsimp only [bare]
        go_wp2_with fail
        refine (troot_any T (.pointer p) 0 w7 ((At4.below S7).more S7.size)).mono ?_
        rintro e w8 ⟨rfl, b8⟩
        have b68 := below_two b7 b8 b7.size
        go_wp2_with fail
        refine hQ' _ _ b68 ?_
        clear hQ'
        have S8_ := below_two S7 b8 S7.size
        refine held_quiet (A := ?A4) [13, 14] (by kernel_rfl) (by kernel_rfl) rfl (by kernel_rfl) (by kernel_rfl) b68 (h := fun W hW => ?h4) (hr := ?r4)
        case h4 =>
          simp only [List.append_eq, List.nil_append, List.cons_append, pick, List.getElem?_cons_zero, List.getElem?_cons_succ]
          repeat (go_big_quiet_step (fail))
          refine wpQuiet_nil ?_
          rfl
        case r4 =>
          refine held_one 15 (by kernel_rfl) (by rfl) (by rfl) (fun Q' hQ' => ?_)
          dsimp only [bare]
          go_wp2_with fail
          refine hQ' _ _ b68 ?_
          clear hQ'
          refine held_end (by kernel_rfl) ?_
          go_wp2_with fail
          go_ret
          exact ⟨rfl, below_two B4 S8_ B4.size⟩
end Go.Proofs.Ytpalomkcgfalnaa
