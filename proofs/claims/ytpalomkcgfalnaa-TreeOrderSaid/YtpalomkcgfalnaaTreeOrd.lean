/- witanlaw09.TreeOrder answers true. -/
import Derived.Test.YtpalomkcgfalnaaMF
import Derived.Test.YtpalomkcgfalnaaMG
import Derived.Test.YtpalomkcgfalnaaMC
import Derived.Outline
set_option linter.unusedVariables false
set_option linter.unusedSimpArgs false
namespace Go.Proofs.Ytpalomkcgfalnaa
open Go Go.RowKit Sh
set_option maxRecDepth 100000 in
set_option maxHeartbeats 4000000 in
theorem treeOrder_any (v : Value) (L : List Pr) (at_ : Int) (hat : 0 ≤ IntKind.u64.wrap at_ ∧ IntKind.u64.wrap at_ < 18446744073709551616) (y : List UInt8) (hy : y.length = 32) (w : World) (hv : Ps w 0 w.heap.size v L) :
    Calls Try.prog 6 #[v, .int .i64 at_, A8 y] w fun e w' => e = .returned (.bool true) ∧ Below w.heap.size w w' := by
  obtain ⟨A, c, hv1, hc1, hc2⟩ := hv.form
  have hsub := hv.sub
  have hlok := hv.1
  subst hv1
  obtain ⟨n, hn⟩ : ∃ n, n = min L.length 25 := ⟨_, rfl⟩
  have hn1 : n ≤ 25 := by omega
  have hn2 : n ≤ L.length := by omega
  have hmin : minI (L.length : Int) 25 = (n : Int) := by unfold minI; split <;> omega
  clear hn
  go_enter Try.func6, Try.ntmps6
  go_wp2_with fail
  obtain ⟨wa, hwa⟩ : ∃ x, x = w.alloc (.cells (c8 y).toArray 25) := ⟨_, rfl⟩
  rw [← hwa]
  have Ba : Below w.heap.size w wa := by rw [hwa]; exact (Below.refl _ _).alloc (Nat.le_refl _) _
  have Ya : Bk wa w.heap.size 25 (c8 y) := by rw [hwa]; exact Bk.new _ _ _
  clear hwa
  refine (first09 wa).mono ?_
  rintro e w0 ⟨rfl, h0⟩
  have Y0 := Ya.below h0 Ya.lt
  have B0 := below_two Ba h0 Ba.size
  clear h0 Ya Ba
  go_wp2_with fail
  go_loopw [8, 27] (fun u t wr => ∃ i : Nat, i ≤ n ∧ t = .int .i64 (i : Int) ∧ Ps wr 0 wr.heap.size u (puts (L.take i) .e).pairs ∧ Okt (puts (L.take i) .e) ∧ (puts (L.take i) .e).len ≤ i ∧ Bk wr w.heap.size 25 (c8 y) ∧ Below w.heap.size w wr) (fun _ t _ => n - (intOf t).toNat)
  case atStart => exact ⟨0, by omega, rfl, Ps.nil _ _ _, trivial, by simp [puts, Tr.len], Y0, B0⟩
  case round =>
    clear Y0 B0
    obtain ⟨i, hi, rfl, O, ok, hlen, Y, B⟩ := hrel
    by_cases hlt : i < n
    · obtain ⟨q, hp⟩ : ∃ p, L[i]? = some p := ⟨_, List.getElem?_eq_getElem (by omega)⟩
      have hqok : PrOk q := hlok q (List.mem_of_getElem? hp)
      have htk := take_step hp
      have hst : puts (L.take (i + 1)) .e = put1 (puts (L.take i) .e) q.1 q.2 := by rw [htk, puts_app]
      obtain ⟨g, o, c', hs⟩ := hsub
      rcases hs with ⟨hrow, _, hg, hA, _, _⟩ | hs
      · injection hA with hA _ hA3
        subst hA hA3
        have hr := (hrow i q hp).1
        have hrw : rowAt wr ⟨g, o + i * 64, none⟩ 64 = some (c8 (pb q)) := (rowAt_below B hg).trans hr
        have Hst := Lib.hid hst
        clear hrow hr hp htk hst
        generalize puts (L.take i) .e = T at *
        have hq1 := hqok.1
        have hq2 := hqok.2
        have hqlen := hqok.len
        obtain ⟨W, hW⟩ : ∃ y, y = putAt (wr.alloc (Obj.cells (c8 (z8 64)).toArray 36)) ⟨wr.heap.size, 0, none⟩ (c8 (pb q)) := ⟨_, rfl⟩
        have hBq : Below wr.heap.size wr W := by rw [hW]; exact below_putAt ((Below.refl _ _).alloc (Nat.le_refl _) _) (Nat.le_refl _) _
        have O1 := (O.below hBq).more hBq.size
        have Y1 := Y.below hBq Y.lt
        have B1 := below_two B hBq B.size
        clear hBq O Y B
        go_wp2_with fail
        rw [← hW]
        clear hW hrw
        refine (refput_any q.1 q.2 hq1 hq2 T P0 ok (by omega) _ W O1).mono ?_
        rintro e w2 ⟨u, rfl, hO, h2⟩
        have Y2 := Y1.below h2 Y1.lt
        have B2 := below_two B1 h2 B1.size
        have O2 := hO.ps.less (Nat.zero_le _)
        have ok2 := ok.put hq1 hq2
        have hl2 := len_put1 (v := q.2) ok hq1
        clear h2 O1 Y1 B1 hO
        go_wp2_with fail
        go_roundw
        case rel => exact ⟨i + 1, by omega, by go_num, by rw [Hst.out]; exact O2, by rw [Hst.out]; exact ok2, by rw [Hst.out]; omega, Y2, B2⟩
        case measure => simp [intOf]; omega
      · subst hs; simp at hn2; omega
    · obtain rfl : i = n := by omega
      generalize puts (L.take i) .e = T at *
      have hrise := ok.rise
      have hTlen : T.pairs.length = T.len := (Tr.len_pairs T).symm
      have HTlen := Lib.hid hTlen
      have hl25 : T.pairs.length ≤ 25 := by omega
      clear hTlen hsub
      obtain ⟨l, hl⟩ : ∃ l, l = T.pairs := ⟨_, rfl⟩
      rw [← hl] at O hrise hl25
      have HL := Lib.hid hl
      clear hl
      obtain ⟨A1, c1, rfl, hc11, hc12⟩ := O.form
      have hTT := Lib.hid hlen
      clear hlen
      go_wp2_with fail
      obtain ⟨w1, hw1⟩ : ∃ x, x = (wr.alloc (Obj.cells #[.pointer none, .int .i64 0] 40)).alloc (Obj.cells #[.pointer none, .int .i64 0] 40) := ⟨_, rfl⟩
      rw [← hw1]
      have B1 : Below w.heap.size w w1 := by rw [hw1]; exact (B.alloc B.size _).alloc (by simp; have := B.size; omega) _
      have zz : w.heap.size < wr.heap.size := Y.lt
      have A1k : Bk w1 wr.heap.size 40 [.pointer none, .int .i64 0] := by rw [hw1]; exact (Bk.new wr _ [.pointer none, .int .i64 0]).alloc _
      have B1k : Bk w1 (wr.heap.size + 1) 40 [.pointer none, .int .i64 0] := by rw [hw1]; simpa using Bk.new (wr.alloc (Obj.cells #[.pointer none, .int .i64 0] 40)) 40 [.pointer none, .int .i64 0]
      have hBr : Below wr.heap.size wr w1 := by rw [hw1]; exact ((Below.refl _ _).alloc (Nat.le_refl _) _).alloc (by simp) _
      have O1 := O.below hBr
      have Y1 := Y.below hBr Y.lt
      clear hw1 hBr O Y B
      generalize wr.heap.size = gA at *
      clear wr
      go_loopw [37] (fun t wr => ∃ (i : Nat) (A B : Tr) (pA pB : Option Addr), i ≤ l.length ∧ t = .int .i64 (i : Int) ∧ Okt A ∧ Okt B ∧ A.len ≤ i ∧ B.len ≤ i ∧ (∀ x, x ∈ A.pairs ↔ x ∈ l.take i) ∧ (∀ x, x ∈ B.pairs ↔ x ∈ l.drop (l.length - i)) ∧
        At wr wr.heap.size A (.pointer pA) ∧ At wr wr.heap.size B (.pointer pB) ∧ Bk wr gA 40 [.pointer pA, .int .i64 0] ∧ Bk wr (gA + 1) 40 [.pointer pB, .int .i64 0] ∧ Ps wr 0 gA (.slice A1 l.length c1) l ∧ Bk wr w.heap.size 25 (c8 y) ∧ Below w.heap.size w wr) (fun t _ => l.length - (intOf t).toNat)
      case atStart => exact ⟨0, .e, .e, none, none, by omega, rfl, trivial, trivial, by simp [Tr.len], by simp [Tr.len], by simp [Tr.pairs], by simp [Tr.pairs], rfl, rfl, A1k, B1k, O1, Y1, B1⟩
      case round =>
        clear A1k B1k O1 Y1 B1
        obtain ⟨i, A, B, pA, pB, hi, rfl, okA, okB, hlA, hlB, hmA, hmB, hatA, hatB, KA, KB, O, Y, Bw⟩ := hrel
        have zA := KA.lt
        have zB := KB.lt
        by_cases hlt : i < l.length
        · obtain ⟨q, hp⟩ : ∃ p, l[i]? = some p := ⟨_, List.getElem?_eq_getElem (by omega)⟩
          obtain ⟨r, hpr⟩ : ∃ p, l[l.length - 1 - i]? = some p := ⟨_, List.getElem?_eq_getElem (by omega)⟩
          have hqok : PrOk q := O.1 q (List.mem_of_getElem? hp)
          have hrok : PrOk r := O.1 r (List.mem_of_getElem? hpr)
          have hstA := Lib.hid (fore_step hrise okA hp hmA)
          have hstB := Lib.hid (back_step hrise okB hpr (u := h1 9) (length_h1 9) (by rw [show l.length - 1 - i + 1 = l.length - i by omega]; exact hmB))
          obtain ⟨g, o, c', hs⟩ := O.sub
          rcases hs with ⟨hrow, _, hg, hA, _, _⟩ | hs
          · injection hA with hA _ hA3
            subst hA hA3
            obtain ⟨_, hqk, hqv⟩ := hrow i q hp
            obtain ⟨_, hrk, hrv⟩ := hrow _ r hpr
            clear hrow hp hpr hmA hmB
            obtain ⟨j, hj⟩ : ∃ j, j = l.length - 1 - i := ⟨_, rfl⟩
            have hji : ((l.length : Int) - 1 - (i : Int)) = (j : Int) := by omega
            have hjl : j < l.length := by omega
            rw [← hj] at hrk hrv hstB
            have Hj := Lib.hid hj
            clear hj
            have hkq := hqok.1
            have hvq := hqok.2
            have hkr := hrok.1
            have hvr := hrok.2
            go_wp2_with fail
            refine wp_hoist (A := ?A) (fun W => Below gA wr W) [1, 2, 3, 4, 5, 6, 7, 8, 9, 10] [0, 11, 12] (by kernel_rfl) (by kernel_rfl) (by kernel_rfl) (by kernel_rfl) rfl rfl (by kernel_rfl) (by kernel_rfl) ?rS (fun W hW => ?rh) (fun hS => ?rt)
            case rS => exact (Below.refl _ _).drew
            case rh =>
              have hqk := (rowAt_below (a := ⟨g, o + i * 64, none⟩) (n := 32) hW hg).trans hqk
              have hqv := (rowAt_below (a := ⟨g, o + i * 64 + 32, none⟩) (n := 32) hW hg).trans hqv
              simp only [pick, List.getElem?_cons_zero, List.getElem?_cons_succ]
              repeat (go_big_quiet_step (fail))
              refine wpQuiet_nil ?_
              rfl
            case rt =>
              simp only [pick, List.getElem?_cons_zero, List.getElem?_cons_succ]
              have S0 : Below gA wr wr.drew := (Below.refl _ _).drew
              have c0 : wr.drew.cell? ⟨gA, 0, none⟩ = some (.pointer pA) := KA.at_ rfl
              have c1 : wr.drew.cell? ⟨gA, 1, none⟩ = some (.int .i64 0) := KA.at_ rfl
              refine wpTail_step (by rfl) (fun Q' hQ' => ?_)
              go_wp2_with fail
              refine hQ' _ _ S0 ?_
              clear hQ' c0 c1
              refine wpTail_step (by rfl) (fun Q' hQ' => ?_)
              go_wp2_with fail
              have hatA' : At wr.drew wr.drew.heap.size A (.pointer pA) := hatA.below (Below.refl _ _).drew
              refine (tput_any q.1 q.2 hkq hvq 0 A P0 (.pointer pA) wr.drew (by omega) (fun i hi => by omega) okA (by omega) hatA').mono ?_
              rintro e w2 ⟨qp, rfl, hat2, h2⟩
              obtain ⟨ap, rfl⟩ := hat2.form
              have h2' : Below wr.heap.size wr w2 := Below.trans (B := wr.heap.size) (Below.refl _ _).drew h2
              clear hatA' hatA
              change At w2 w2.heap.size (put1 A q.1 q.2) _ at hat2
              have okA2 := okA.put (v := q.2) hkq hvq
              have hlA2 := len_put1 (v := q.2) okA hkq
              generalize put1 A q.1 q.2 = A2 at *
              have KA2 := KA.below h2' zA
              have KB2 := KB.below h2' zB
              have Y2 := Y.below h2' (by omega)
              have O2 := O.below (h2'.mono (by omega))
              have Bw2 := below_two Bw h2' Bw.size
              have hatB2 := (hatB.below h2').more h2'.size
              have S2 : Below gA wr w2 := h2'.mono (by omega)
              have hrk2 := (rowAt_below (a := ⟨g, o + j * 64, none⟩) (n := 32) h2' (by simp; omega)).trans hrk
              have hrv2 := (rowAt_below (a := ⟨g, o + j * 64 + 32, none⟩) (n := 32) h2' (by simp; omega)).trans hrv
              clear h2 hrk hrv hqk hqv KA KB Y O Bw hatB hS S0 okA
              go_wp2_with fail
              refine hQ' _ _ S2 ?_
              clear hQ'
              have f0 := KA2.frozen 0
              have f1 := KA2.frozen 1
              have z0 := KA2.at_ (i := 0) rfl
              have z1 := KA2.at_ (i := 1) rfl
              refine wpTail_step (by rfl) (fun Q' hQ' => ?_)
              go_wp2_with fail
              obtain ⟨w3, hw3⟩ : ∃ x, x = (w2.setCell ⟨gA, 0, none⟩ (.pointer ap)).setCell ⟨gA, 1, none⟩ (.int .i64 0) := ⟨_, rfl⟩
              rw [← hw3]
              have KA3 : Bk w3 gA 40 [.pointer ap, .int .i64 0] := by rw [hw3]; exact (KA2.set_ 0 (.pointer ap)).set_ 1 (.int .i64 0)
              have KA2' := KA2.set_ 0 (.pointer ap)
              have KB3 : Bk w3 (gA + 1) 40 [.pointer pB, .int .i64 0] := by rw [hw3]; exact (KB2.far (p := ⟨gA, 0, none⟩) (by simp) _).far (p := ⟨gA, 1, none⟩) (by simp) _
              have Y3 : Bk w3 w.heap.size 25 (c8 y) := by rw [hw3]; exact (Y2.far (p := ⟨gA, 0, none⟩) (by simp; omega) _).far (p := ⟨gA, 1, none⟩) (by simp; omega) _
              have hatA3 : At w3 w3.heap.size A2 (.pointer ap) := by rw [hw3]; exact ((hat2.set_ KA2 (by decide) 0 _).set_ KA2' (by decide) 1 _).more (by simp)
              have hatB3 : At w3 w3.heap.size B (.pointer pB) := by rw [hw3]; exact ((hatB2.set_ KA2 (by decide) 0 _).set_ KA2' (by decide) 1 _).more (by simp)
              have hs3 : Below gA w2 w3 := by rw [hw3]; exact ((Below.refl _ _).setCell (by simp) _).setCell (by simp) _
              have O3 := O2.below hs3
              have Bw3 := Bw2.trans (hs3.mono (B' := w.heap.size) (by omega))
              have S3 := S2.trans hs3
              have hrk3 := (rowAt_below (a := ⟨g, o + j * 64, none⟩) (n := 32) hs3 hg).trans hrk2
              have hrv3 := (rowAt_below (a := ⟨g, o + j * 64 + 32, none⟩) (n := 32) hs3 hg).trans hrv2
              have zB3 := KB3.lt
              refine hQ' _ _ S3 ?_
              clear hQ' hw3 KA2 KA2' KB2 Y2 hat2 hatB2 hs3 O2 Bw2 S2 hrk2 hrv2 f0 f1 z0 z1 S3 h2'
              refine wpTail_nil ?_
              go_wp2_with fail
              refine wp_hoist (A := ?A2) (fun W => Below (gA + 1) w3 W) [1, 2, 3, 4, 5, 6, 8, 9, 10, 11, 12, 13, 14, 15, 16, 17] [0, 7, 18, 19] (by kernel_rfl) (by kernel_rfl) (by kernel_rfl) (by kernel_rfl) rfl rfl (by kernel_rfl) (by kernel_rfl) ?rS2 (fun W hW => ?rh2) (fun hS => ?rt2)
              case rS2 => exact (Below.refl _ _).drew
              case rh2 =>
                have hrk3 := (rowAt_below (a := ⟨g, o + j * 64, none⟩) (n := 32) hW (by simp; omega)).trans hrk3
                have hrv3 := (rowAt_below (a := ⟨g, o + j * 64 + 32, none⟩) (n := 32) hW (by simp; omega)).trans hrv3
                simp only [pick, List.getElem?_cons_zero, List.getElem?_cons_succ]
                repeat (go_big_quiet_step (fail))
                refine wpQuiet_nil ?_
                rfl
              case rt2 =>
                simp only [pick, List.getElem?_cons_zero, List.getElem?_cons_succ]
                have S0 : Below (gA + 1) w3 w3.drew := (Below.refl _ _).drew
                have c0 : w3.drew.cell? ⟨gA + 1, 0, none⟩ = some (.pointer pB) := KB3.at_ rfl
                have c1 : w3.drew.cell? ⟨gA + 1, 1, none⟩ = some (.int .i64 0) := KB3.at_ rfl
                refine wpTail_step (by rfl) (fun Q' hQ' => ?_)
                go_wp2_with fail
                refine hQ' _ _ S0 ?_
                clear hQ' c0 c1
                refine wpTail_step (by rfl) (fun Q' hQ' => ?_)
                go_wp2_with fail
                have hatB' : At w3.drew w3.drew.heap.size B (.pointer pB) := hatB3.below (Below.refl _ _).drew
                refine (tput_any r.1 (h1 9) hkr (length_h1 9) 0 B P0 (.pointer pB) w3.drew (by omega) (fun i hi => by omega) okB (by omega) hatB').mono ?_
                rintro e w4 ⟨qp, rfl, hat4, h4⟩
                obtain ⟨bp, rfl⟩ := hat4.form
                have h4' : Below w3.heap.size w3 w4 := Below.trans (B := w3.heap.size) (Below.refl _ _).drew h4
                clear hatB' hatB3
                change At w4 w4.heap.size (put1 B r.1 (h1 9)) _ at hat4
                have okB4 := okB.put (v := h1 9) hkr (length_h1 9)
                have hov := put1_over okB hkr (u := h1 9) hvr (length_h1 9)
                have hlB4 := len_put1 (v := r.2) okB hkr
                have hlB5 := len_put1 (v := h1 9) okB hkr
                rw [← hov] at hlB4
                generalize put1 B r.1 (h1 9) = B4 at *
                have KA4 := KA3.below h4' (by omega)
                have KB4 := KB3.below h4' zB3
                have Y4 := Y3.below h4' (by omega)
                have O4 := O3.below (h4'.mono (by omega))
                have Bw4 := below_two Bw3 h4' Bw3.size
                have hatA4 := (hatA3.below h4').more h4'.size
                have S4 : Below (gA + 1) w3 w4 := h4'.mono (by omega)
                clear h4 hrk3 hrv3 KA3 KB3 Y3 O3 Bw3 hatA3 hS S0
                go_wp2_with fail
                refine hQ' _ _ S4 ?_
                clear hQ'
                refine wpTail_step (by rfl) (fun Q' hQ' => ?_)
                go_wp2_with fail
                refine (tput_any r.1 r.2 hkr hvr 0 B4 P0 (.pointer bp) w4 (by omega) (fun i hi => by omega) okB4 (by omega) hat4).mono ?_
                rintro e w5 ⟨qp, rfl, hat5, h5⟩
                obtain ⟨cp, rfl⟩ := hat5.form
                change At w5 w5.heap.size (put1 B4 r.1 r.2) _ at hat5
                have okB5 := okB4.put (v := r.2) hkr hvr
                generalize put1 B4 r.1 r.2 = B5 at *
                have KA5 := KA4.below h5 KA4.lt
                have KB5 := KB4.below h5 KB4.lt
                have Y5 := Y4.below h5 Y4.lt
                have O5 := O4.below (h5.mono (by have := KA4.lt; omega))
                have Bw5 := below_two Bw4 h5 Bw4.size
                have hatA5 := (hatA4.below h5).more h5.size
                have S5 : Below (gA + 1) w3 w5 := S4.trans (h5.mono (by have := KB4.lt; omega))
                clear h5 KA4 KB4 Y4 O4 Bw4 hatA4 S4 hat4 h4'
                go_wp2_with fail
                refine hQ' _ _ S5 ?_
                clear hQ'
                have f0 := KB5.frozen 0
                have f1 := KB5.frozen 1
                have z0 := KB5.at_ (i := 0) rfl
                have z1 := KB5.at_ (i := 1) rfl
                refine wpTail_step (by rfl) (fun Q' hQ' => ?_)
                go_wp2_with fail
                obtain ⟨w6, hw6⟩ : ∃ x, x = (w5.setCell ⟨gA + 1, 0, none⟩ (.pointer cp)).setCell ⟨gA + 1, 1, none⟩ (.int .i64 0) := ⟨_, rfl⟩
                rw [← hw6]
                have KB6 : Bk w6 (gA + 1) 40 [.pointer cp, .int .i64 0] := by rw [hw6]; exact (KB5.set_ 0 (.pointer cp)).set_ 1 (.int .i64 0)
                have KB5' := KB5.set_ 0 (.pointer cp)
                have KA6 : Bk w6 gA 40 [.pointer ap, .int .i64 0] := by rw [hw6]; exact (KA5.far (p := ⟨gA + 1, 0, none⟩) (by simp) _).far (p := ⟨gA + 1, 1, none⟩) (by simp) _
                have Y6 : Bk w6 w.heap.size 25 (c8 y) := by rw [hw6]; exact (Y5.far (p := ⟨gA + 1, 0, none⟩) (by simp; omega) _).far (p := ⟨gA + 1, 1, none⟩) (by simp; omega) _
                have hatB6 : At w6 w6.heap.size B5 (.pointer cp) := by rw [hw6]; exact ((hat5.set_ KB5 (by decide) 0 _).set_ KB5' (by decide) 1 _).more (by simp)
                have hatA6 : At w6 w6.heap.size A2 (.pointer ap) := by rw [hw6]; exact ((hatA5.set_ KB5 (by decide) 0 _).set_ KB5' (by decide) 1 _).more (by simp)
                have hs6 : Below (gA + 1) w5 w6 := by rw [hw6]; exact ((Below.refl _ _).setCell (by simp) _).setCell (by simp) _
                have O6 := O5.below (hs6.mono (Nat.le_succ _))
                have Bw6 := Bw5.trans (hs6.mono (B' := w.heap.size) (by omega))
                refine hQ' _ _ (S5.trans hs6) ?_
                clear hQ' hw6 KB5 KB5' KA5 Y5 hat5 hatA5 hs6 O5 Bw5 S5 f0 f1 z0 z1
                refine wpTail_nil ?_
                go_wp2_with fail
                go_roundw
                case rel =>
                  refine ⟨i + 1, A2, B5, ap, cp, by omega, by go_num, okA2, okB5, by omega, by omega, hstA.out, ?_, hatA6, hatB6, KA6, KB6, O6, Y6, Bw6⟩
                  rw [show l.length - (i + 1) = j by rw [Hj.out]; omega]
                  exact hstB.out
                case measure => simp [intOf]; omega
          · subst hs; simp at hlt
        · obtain rfl : i = l.length := by omega
          have hAT : A = T := Ok.ext_mem okA ok fun x => by rw [hmA, List.take_length, HL.out]
          have hBT : B = T := Ok.ext_mem okB ok fun x => by rw [hmB, Nat.sub_self, List.drop_zero, HL.out]
          rw [hAT] at hatA
          rw [hBT] at hatB
          clear hAT hBT okA okB hlA hlB hmA hmB
          have hTr := Tr.root_length T
          have zA := KA.lt
          have zB := KB.lt
          have c0 : wr.cell? ⟨gA, 0, none⟩ = some (.pointer pA) := KA.at_ rfl
          have c1 : wr.cell? ⟨gA, 1, none⟩ = some (.int .i64 0) := KA.at_ rfl
          have d0 : wr.cell? ⟨gA + 1, 0, none⟩ = some (.pointer pB) := KB.at_ rfl
          have d1 : wr.cell? ⟨gA + 1, 1, none⟩ = some (.int .i64 0) := KB.at_ rfl
          go_wp2_with fail
          refine wp_ext (by kernel_rfl) (by kernel_rfl) ?_
          repeat (go_big_quiet_step (first | (go_at_call 23; exact quiet_ext (fun W hW => troot_any T (.pointer pA) 0 W ((hatA.below hW).more hW.size))) | (go_at_call 23; exact quiet_ext (fun W hW => troot_any T (.pointer pB) 0 W ((hatB.below hW).more hW.size)))))
          refine wpQuiet_nil ?_
          rintro w5 ⟨p5, hw5⟩
          have Be : Below wr.heap.size wr w5 := by rw [hw5]; exact below_ext wr p5
          have KA5 := KA.below Be zA
          have Y5 := Y.below Be (by omega)
          have O5 := O.below (Be.mono (by omega))
          have hatA5 := (hatA.below Be).more Be.size
          have B5 := below_two Bw Be Bw.size
          clear hw5 Be c0 c1 d0 d1 KA KB Y O hatA hatB Bw zA zB hmin
          obtain ⟨a, ha⟩ := Int.eq_ofNat_of_zero_le hat.1
          by_cases hl0 : l.length = 0
          · have hz : ((l.length : Int) == 0) = true := by simp [hl0]
            go_wp2_with fail
            go_ret
            exact ⟨rfl, B5⟩
          · have hz : ((l.length : Int) == 0) = false := by rw [beq_eq_false_iff_ne]; omega
            have hz2 : ((l.length : Int)) ≠ 0 := by omega
            have hwl : IntKind.u64.wrap (l.length : Int) = (l.length : Int) := by simp only [IntKind.wrap, IntKind.bits, IntKind.signed]; simp; omega
            obtain ⟨m, hm⟩ : ∃ m, m = a % l.length := ⟨_, rfl⟩
            have hml : m < l.length := by rw [hm]; exact Nat.mod_lt _ (by omega)
            have hrem : (a : Int) % (l.length : Int) = (m : Int) := by rw [hm]; exact (Int.natCast_emod _ _).symm
            clear hm
            obtain ⟨q, hp⟩ : ∃ p, l[m]? = some p := ⟨_, List.getElem?_eq_getElem hml⟩
            have hqok : PrOk q := O5.1 q (List.mem_of_getElem? hp)
            have hqT : Hid (q ∈ T.pairs) := Lib.hid (by rw [← HL.out]; exact List.mem_of_getElem? hp)
            obtain ⟨g, o, c', hs⟩ := O5.sub
            rcases hs with ⟨hrow, _, hg, hA, _, _⟩ | hs
            · injection hA with hA _ hA3
              subst hA hA3
              have hqa := (hrow m q hp).1
              clear hrow hp
              have zg : g < w5.heap.size := by have := KA5.lt; omega
              have hkq := hqok.1
              have hvq := hqok.2
              have hqlen := hqok.len
              obtain ⟨W, hW⟩ : ∃ x, x = putAt (w5.alloc (Obj.cells (c8 (z8 64)).toArray 36)) ⟨w5.heap.size, 0, none⟩ (c8 (pb q)) := ⟨_, rfl⟩
              have hBq : Below w5.heap.size w5 W := by rw [hW]; exact below_putAt ((Below.refl _ _).alloc (Nat.le_refl _) _) (Nat.le_refl _) _
              have Q6 : Bk W w5.heap.size 36 (c8 (pb q)) := by rw [hW]; exact Bk.fresh w5 _ (by simp [hqlen])
              have KA6 := KA5.below hBq KA5.lt
              have Y6 := Y5.below hBq Y5.lt
              have O6 := (O5.below (hBq.mono (by have := KA5.lt; omega)))
              have hatA6 := (hatA5.below hBq).more hBq.size
              have B6 := below_two B5 hBq B5.size
              have zq : gA < w5.heap.size := KA5.lt
              have zy := Y5.lt
              have c0 : W.cell? ⟨gA, 0, none⟩ = some (.pointer pA) := KA6.at_ rfl
              have c1 : W.cell? ⟨gA, 1, none⟩ = some (.int .i64 0) := KA6.at_ rfl
              have ry := Y6.rows
              rw [length_c8, hy] at ry
              have rqk := pair_key Q6 hqok
              rw [hW] at c0 c1 ry rqk
              clear hBq KA5 Y5 O5 hatA5 B5
              go_wp2_with fail
              rw [← hW]
              clear hW c0 c1 ry rqk
              refine (tput_any q.1 y hkq hy 0 T P0 (.pointer pA) W (by omega) (fun i hi => by omega) ok (by have := hTT.out; omega) hatA6).mono ?_
              rintro e w6 ⟨qp, rfl, hatC, h6⟩
              obtain ⟨cp, rfl⟩ := hatC.form
              change At w6 w6.heap.size (put1 T q.1 y) _ at hatC
              obtain ⟨C, hC⟩ : ∃ C, C = put1 T q.1 y := ⟨_, rfl⟩
              rw [← hC] at hatC
              have HC := Lib.hid hC
              clear hC
              have zw := Q6.lt
              have Q7 := Q6.below h6 Q6.lt
              have KA7 := KA6.below h6 KA6.lt
              have Y7 := Y6.below h6 Y6.lt
              have O7 := (O6.below (h6.mono (by omega)))
              have hatA7 := (hatA6.below h6).more h6.size
              have B7 := below_two B6 h6 B6.size
              have zw6 := Q7.lt
              clear h6 Q6 KA6 Y6 O6 hatA6 B6
              obtain ⟨w7, hw7⟩ : ∃ x, x = w6.alloc (Obj.cells #[.pointer cp, .int .i64 0] 40) := ⟨_, rfl⟩
              have KC7 : Bk w7 w6.heap.size 40 [.pointer cp, .int .i64 0] := by rw [hw7]; exact Bk.new w6 _ [.pointer cp, .int .i64 0]
              have hb7 : Below w6.heap.size w6 w7 := by rw [hw7]; exact (Below.refl _ _).alloc (Nat.le_refl _) _
              have ry := Y7.rows
              rw [length_c8, hy] at ry
              have rqk := pair_key Q7 hqok
              have zy6 : w.heap.size < w6.heap.size := by omega
              have Q8 := Q7.below hb7 Q7.lt
              have KA8 := KA7.below hb7 KA7.lt
              have Y8 := Y7.below hb7 Y7.lt
              have O8 := (O7.below (hb7.mono (by omega)))
              have hatA8 := (hatA7.below hb7).more hb7.size
              have hatC8 := (hatC.below hb7).more hb7.size
              have B8 := below_two B7 hb7 B7.size
              have zk8 := KC7.lt
              clear hb7 Q7 KA7 Y7 O7 hatA7 hatC B7
              go_wp2_with fail
              rw [← hw7]
              clear ry rqk hw7
              refine (refput_any q.1 y hkq hy T P0 ok (by have := hTT.out; omega) _ w7 (by rw [← HL.out]; exact O8.more (by omega))).mono ?_
              rintro e w9 ⟨u, rfl, hO9, h9⟩
              have Q9 := Q8.below h9 Q8.lt
              have KA9 := KA8.below h9 KA8.lt
              have KC9 := KC7.below h9 KC7.lt
              have Y9 := Y8.below h9 Y8.lt
              have O9 := O8.below (h9.mono (by omega))
              have hatA9 := (hatA8.below h9).more h9.size
              have hatC9 := (hatC8.below h9).more h9.size
              have B9 := below_two B8 h9 B8.size
              have hP9 := hO9.ps.less (Nat.zero_le _)
              change Ps w9 0 w9.heap.size u (put1 T q.1 y).pairs at hP9
              rw [← HC.out] at hP9
              have z9 := h9.size
              have okC : Okt C := by rw [HC.out]; exact ok.put hkq hy
              have hlC : C.len ≤ 27 := by rw [HC.out]; have := len_put1 (v := y) ok hkq; have := hTT.out; omega
              clear h9 Q8 KA8 KC7 Y8 O8 hatA8 hatC8 B8 hO9
              go_wp2_with fail
              refine (refroot_any C 0 _ P0 _ w9 rfl okC (by omega) (by omega) hP9).mono ?_
              rintro e w10 ⟨rfl, h10⟩
              have Q10 := Q9.below h10 Q9.lt
              have KA10 := KA9.below h10 KA9.lt
              have KC10 := KC9.below h10 KC9.lt
              have Y10 := Y9.below h10 Y9.lt
              have O10 := O9.below (h10.mono (by omega))
              have hatA10 := (hatA9.below h10).more h10.size
              have hatC10 := (hatC9.below h10).more h10.size
              have B10 := below_two B9 h10 B9.size
              have z10 := h10.size
              have hCr := Tr.root_length C
              clear h10 Q9 KA9 KC9 Y9 O9 hatA9 hatC9 B9 hP9
              go_wp2_with fail
              -- REGION25
              obtain ⟨wv, hwv⟩ : ∃ x, x = putAt (w10.alloc (Obj.cells (c8 (z8 32)).toArray 25)) ⟨w10.heap.size, 0, none⟩ (c8 C.root) := ⟨_, rfl⟩
              rw [← hwv]
              have hbv : Below w10.heap.size w10 wv := by rw [hwv]; exact below_putAt ((Below.refl _ _).alloc (Nat.le_refl _) _) (Nat.le_refl _) _
              have R : Bk wv w10.heap.size 25 (c8 C.root) := by rw [hwv]; exact Bk.fresh w10 _ (by simp [hCr])
              have Q := Q10.below hbv Q10.lt
              have KA := KA10.below hbv KA10.lt
              have KC := KC10.below hbv KC10.lt
              have Y := Y10.below hbv Y10.lt
              have zc10 := KC10.lt
              have O := O10.below (hbv.mono (by omega))
              have hatA := (hatA10.below hbv).more hbv.size
              have hatC := (hatC10.below hbv).more hbv.size
              have Bw := below_two B10 hbv B10.size
              have za := KA.lt
              replace O := O.more (B' := wv.heap.size) (by omega)
              have HD : Hid (put1 C q.1 q.2 = T) := Lib.hid (by rw [HC.out]; exact root_inj_put ok hkq hvq hy hqT.out)
              have HlC : Hid (C.len = T.len) := Lib.hid (by rw [HC.out]; exact len_put1_old ok hkq ⟨q, hqT.out, rfl⟩)
              have hsame : y = q.2 → C.root = T.root := fun e => by rw [HC.out, e, put1_same ok hkq hvq hqT.out]
              obtain ⟨rC, hrC⟩ : ∃ r, r = C.root := ⟨_, rfl⟩
              obtain ⟨rT, hrT⟩ : ∃ r, r = T.root := ⟨_, rfl⟩
              rw [← hrC] at R hsame hCr
              rw [← hrT] at hsame hTr
              have hrc := hCr
              have HsameR := Lib.hid hsame
              have HrC := Lib.hid hrC.symm
              have HrT := Lib.hid hrT.symm
              clear hsame hrC hrT hCr hwv hbv Q10 KA10 KC10 Y10 O10 hatA10 hatC10 B10
              generalize w6.heap.size = gC at *
              generalize w5.heap.size = gq at *
              generalize w10.heap.size = gr at *
              refine held_begin (fun W => Below wv.heap.size wv W) (by kernel_rfl) ?_
              have S0 : Below wv.heap.size wv wv.drew := (Below.refl _ _).drew
              refine held_quiet (A := ?A_1) [0, 2, 5, 6] (by kernel_rfl) (by kernel_rfl) rfl (by kernel_rfl) (by kernel_rfl) S0 (h := fun W hW => ?h_1) (hr := ?r_1)
              case h_1 =>
                have KAw := KA.below hW KA.lt
                have KCw := KC.below hW KC.lt
                have Rw := R.below hW R.lt
                have Yw := Y.below hW Y.lt
                have Qw := Q.below hW Q.lt
                have a0 : W.cell? ⟨gA, 0, none⟩ = some (.pointer pA) := KAw.at_ rfl
                have a1 : W.cell? ⟨gA, 1, none⟩ = some (.int .i64 0) := KAw.at_ rfl
                have b0 : W.cell? ⟨gC, 0, none⟩ = some (.pointer cp) := KCw.at_ rfl
                have b1 : W.cell? ⟨gC, 1, none⟩ = some (.int .i64 0) := KCw.at_ rfl
                have r0 := Rw.rows
                rw [length_c8, hrc] at r0
                have r1 := Yw.rows
                rw [length_c8, hy] at r1
                have r2 := pair_key Qw hqok
                have r3 := pair_val Qw hqok
                simp only [List.append_eq, List.nil_append, List.cons_append, pick, List.getElem?_cons_zero, List.getElem?_cons_succ]
                clear KAw KCw Rw Yw Qw
                repeat (go_big_quiet_step (fail))
                refine wpQuiet_nil ?_
                rfl
              case r_1 =>
                refine held_one 1 (by kernel_rfl) (by rfl) (by rfl) (fun Q' hQ' => ?_)
                dsimp only [bare]
                go_wp2_with fail
                refine (troot_any C (.pointer cp) 0 wv.drew ((hatC.below S0).more S0.size)).mono ?_
                rintro e x1 ⟨rfl, hx⟩
                have S1 := below_two S0 hx S0.size
                clear hx
                rw [HrC.out]
                go_wp2_with fail
                refine hQ' _ _ S1 ?_
                clear hQ'
                refine held_one 3 (by kernel_rfl) (by rfl) (by rfl) (fun Q' hQ' => ?_)
                dsimp only [bare]
                go_wp2_with fail
                refine (troot_any T (.pointer pA) 0 x1 ((hatA.below S1).more S1.size)).mono ?_
                rintro e x2 ⟨rfl, hx⟩
                have S2 := below_two S1 hx S1.size
                clear hx
                rw [HrT.out]
                go_wp2_with fail
                refine hQ' _ _ S2 ?_
                clear hQ'
                refine held_quiet (A := ?A_2) [4] (by kernel_rfl) (by kernel_rfl) rfl (by kernel_rfl) (by kernel_rfl) S2 (h := fun W hW => ?h_2) (hr := ?r_2)
                case h_2 =>
                  have KAw := KA.below hW KA.lt
                  have KCw := KC.below hW KC.lt
                  have Rw := R.below hW R.lt
                  have Yw := Y.below hW Y.lt
                  have Qw := Q.below hW Q.lt
                  have a0 : W.cell? ⟨gA, 0, none⟩ = some (.pointer pA) := KAw.at_ rfl
                  have a1 : W.cell? ⟨gA, 1, none⟩ = some (.int .i64 0) := KAw.at_ rfl
                  have b0 : W.cell? ⟨gC, 0, none⟩ = some (.pointer cp) := KCw.at_ rfl
                  have b1 : W.cell? ⟨gC, 1, none⟩ = some (.int .i64 0) := KCw.at_ rfl
                  have r0 := Rw.rows
                  rw [length_c8, hrc] at r0
                  have r1 := Yw.rows
                  rw [length_c8, hy] at r1
                  have r2 := pair_key Qw hqok
                  have r3 := pair_val Qw hqok
                  simp only [List.append_eq, List.nil_append, List.cons_append, pick, List.getElem?_cons_zero, List.getElem?_cons_succ]
                  clear KAw KCw Rw Yw Qw
                  repeat (go_big_quiet_step (fail))
                  refine wpQuiet_nil ?_
                  rfl
                case r_2 =>
                  refine held_one 7 (by kernel_rfl) (by rfl) (by rfl) (fun Q' hQ' => ?_)
                  dsimp only [bare]
                  go_wp2_with fail
                  refine (refroot_any T 0 _ P0 _ x2 rfl ok (by omega) (by have := hTT.out; omega) (by rw [← HL.out]; exact (O.below S2).more S2.size)).mono ?_
                  rintro e x3 ⟨rfl, hx⟩
                  have S3 := below_two S2 hx S2.size
                  clear hx
                  rw [HrT.out]
                  go_wp2_with fail
                  refine hQ' _ _ S3 ?_
                  clear hQ'
                  by_cases hyq : y = q.2
                  · have hne : (y != q.2) = false := by simp [hyq]
                    have hne2 : (y == q.2) = true := by simp [hyq]
                    have hrr : rC = rT := HsameR.out hyq
                    subst hrr
                    refine held_quiet (A := ?A_3) [8, 9, 10, 11, 12, 13, 14, 15, 16, 18] (by kernel_rfl) (by kernel_rfl) rfl (by kernel_rfl) (by kernel_rfl) S3 (h := fun W hW => ?h_3) (hr := ?r_3)
                    case h_3 =>
                      have KAw := KA.below hW KA.lt
                      have KCw := KC.below hW KC.lt
                      have Rw := R.below hW R.lt
                      have Yw := Y.below hW Y.lt
                      have Qw := Q.below hW Q.lt
                      have a0 : W.cell? ⟨gA, 0, none⟩ = some (.pointer pA) := KAw.at_ rfl
                      have a1 : W.cell? ⟨gA, 1, none⟩ = some (.int .i64 0) := KAw.at_ rfl
                      have b0 : W.cell? ⟨gC, 0, none⟩ = some (.pointer cp) := KCw.at_ rfl
                      have b1 : W.cell? ⟨gC, 1, none⟩ = some (.int .i64 0) := KCw.at_ rfl
                      have r0 := Rw.rows
                      rw [length_c8, hrc] at r0
                      have r1 := Yw.rows
                      rw [length_c8, hy] at r1
                      have r2 := pair_key Qw hqok
                      have r3 := pair_val Qw hqok
                      simp only [List.append_eq, List.nil_append, List.cons_append, pick, List.getElem?_cons_zero, List.getElem?_cons_succ]
                      clear KAw KCw Rw Yw Qw
                      repeat (go_big_quiet_step (fail))
                      refine wpQuiet_nil ?_
                      rfl
                    case r_3 =>
                      refine held_one 17 (by kernel_rfl) (by rfl) (by rfl) (fun Q' hQ' => ?_)
                      dsimp only [bare]
                      go_wp2_with fail
                      refine (troot_any C (.pointer cp) 0 x3 ((hatC.below S3).more S3.size)).mono ?_
                      rintro e x4 ⟨rfl, hx⟩
                      have S4 := below_two S3 hx S3.size
                      clear hx
                      rw [HrC.out]
                      go_wp2_with fail
                      refine hQ' _ _ S4 ?_
                      clear hQ'
                      refine held_one 19 (by kernel_rfl) (by rfl) (by rfl) (fun Q' hQ' => ?_)
                      dsimp only [bare]
                      go_wp2_with fail
                      refine (troot_any T (.pointer pA) 0 x4 ((hatA.below S4).more S4.size)).mono ?_
                      rintro e y4 ⟨rfl, hx⟩
                      have Sy := below_two S4 hx S4.size
                      clear hx
                      rw [HrT.out]
                      go_wp2_with fail
                      refine hQ' _ _ Sy ?_
                      clear hQ'
                      refine held_quiet (A := ?A_4) [20, 21, 22, 23, 24, 25, 26, 27, 28, 31] (by kernel_rfl) (by kernel_rfl) rfl (by kernel_rfl) (by kernel_rfl) Sy (h := fun W hW => ?h_4) (hr := ?r_4)
                      case h_4 =>
                        have KAw := KA.below hW KA.lt
                        have KCw := KC.below hW KC.lt
                        have Rw := R.below hW R.lt
                        have Yw := Y.below hW Y.lt
                        have Qw := Q.below hW Q.lt
                        have a0 : W.cell? ⟨gA, 0, none⟩ = some (.pointer pA) := KAw.at_ rfl
                        have a1 : W.cell? ⟨gA, 1, none⟩ = some (.int .i64 0) := KAw.at_ rfl
                        have b0 : W.cell? ⟨gC, 0, none⟩ = some (.pointer cp) := KCw.at_ rfl
                        have b1 : W.cell? ⟨gC, 1, none⟩ = some (.int .i64 0) := KCw.at_ rfl
                        have r0 := Rw.rows
                        rw [length_c8, hrc] at r0
                        have r1 := Yw.rows
                        rw [length_c8, hy] at r1
                        have r2 := pair_key Qw hqok
                        have r3 := pair_val Qw hqok
                        simp only [List.append_eq, List.nil_append, List.cons_append, pick, List.getElem?_cons_zero, List.getElem?_cons_succ]
                        clear KAw KCw Rw Yw Qw
                        repeat (go_big_quiet_step (fail))
                        refine wpQuiet_nil ?_
                        rfl
                      case r_4 =>
                        refine held_one 29 (by kernel_rfl) (by rfl) (by rfl) (fun Q' hQ' => ?_)
                        dsimp only [bare]
                        go_wp2_with fail
                        refine (tput_any q.1 q.2 hkq hvq 0 C P0 (.pointer cp) y4 (by omega) (fun i hi => by omega) okC (by omega) ((hatC.below Sy).more Sy.size)).mono ?_
                        rintro e x5 ⟨qp, rfl, hatD, hx⟩
                        obtain ⟨dp, rfl⟩ := hatD.form
                        change At x5 x5.heap.size (put1 C q.1 q.2) _ at hatD
                        rw [HD.out] at hatD
                        have S5 := below_two Sy hx Sy.size
                        clear hx
                        go_wp2_with fail
                        refine hQ' _ _ S5 ?_
                        clear hQ'
                        refine held_one 30 (by kernel_rfl) (by rfl) (by rfl) (fun Q' hQ' => ?_)
                        dsimp only [bare]
                        go_wp2_with fail
                        refine (troot_any T (.pointer dp) 0 x5 hatD).mono ?_
                        rintro e x6 ⟨rfl, hx⟩
                        have S6 := below_two S5 hx S5.size
                        clear hx
                        rw [HrT.out]
                        go_wp2_with fail
                        refine hQ' _ _ S6 ?_
                        clear hQ'
                        refine held_one 32 (by kernel_rfl) (by rfl) (by rfl) (fun Q' hQ' => ?_)
                        dsimp only [bare]
                        go_wp2_with fail
                        refine (troot_any T (.pointer pA) 0 x6 ((hatA.below S6).more S6.size)).mono ?_
                        rintro e x7 ⟨rfl, hx⟩
                        have S7 := below_two S6 hx S6.size
                        clear hx
                        rw [HrT.out]
                        go_wp2_with fail
                        refine hQ' _ _ S7 ?_
                        clear hQ'
                        refine held_quiet (A := ?A_5) [33, 34, 35, 36, 38] (by kernel_rfl) (by kernel_rfl) rfl (by kernel_rfl) (by kernel_rfl) S7 (h := fun W hW => ?h_5) (hr := ?r_5)
                        case h_5 =>
                          have KAw := KA.below hW KA.lt
                          have KCw := KC.below hW KC.lt
                          have Rw := R.below hW R.lt
                          have Yw := Y.below hW Y.lt
                          have Qw := Q.below hW Q.lt
                          have a0 : W.cell? ⟨gA, 0, none⟩ = some (.pointer pA) := KAw.at_ rfl
                          have a1 : W.cell? ⟨gA, 1, none⟩ = some (.int .i64 0) := KAw.at_ rfl
                          have b0 : W.cell? ⟨gC, 0, none⟩ = some (.pointer cp) := KCw.at_ rfl
                          have b1 : W.cell? ⟨gC, 1, none⟩ = some (.int .i64 0) := KCw.at_ rfl
                          have r0 := Rw.rows
                          rw [length_c8, hrc] at r0
                          have r1 := Yw.rows
                          rw [length_c8, hy] at r1
                          have r2 := pair_key Qw hqok
                          have r3 := pair_val Qw hqok
                          simp only [List.append_eq, List.nil_append, List.cons_append, pick, List.getElem?_cons_zero, List.getElem?_cons_succ]
                          clear KAw KCw Rw Yw Qw
                          repeat (go_big_quiet_step (fail))
                          refine wpQuiet_nil ?_
                          rfl
                        case r_5 =>
                          refine held_one 37 (by kernel_rfl) (by rfl) (by rfl) (fun Q' hQ' => ?_)
                          dsimp only [bare]
                          go_wp2_with fail
                          refine (tlen_any C (.pointer cp) 0 x7 ((hatC.below S7).more S7.size)).mono ?_
                          rintro e x8 ⟨rfl, hx⟩
                          have S8 := below_two S7 hx S7.size
                          clear hx
                          rw [HlC.out]
                          go_wp2_with fail
                          refine hQ' _ _ S8 ?_
                          clear hQ'
                          refine held_one 39 (by kernel_rfl) (by rfl) (by rfl) (fun Q' hQ' => ?_)
                          dsimp only [bare]
                          go_wp2_with fail
                          refine (tlen_any T (.pointer pA) 0 x8 ((hatA.below S8).more S8.size)).mono ?_
                          rintro e x9 ⟨rfl, hx⟩
                          have S9 := below_two S8 hx S8.size
                          clear hx
                          go_wp2_with fail
                          refine hQ' _ _ S9 ?_
                          clear hQ'
                          refine held_quiet (A := ?A_6) [40, 41] (by kernel_rfl) (by kernel_rfl) rfl (by kernel_rfl) (by kernel_rfl) S9 (h := fun W hW => ?h_6) (hr := ?r_6)
                          case h_6 =>
                            have KAw := KA.below hW KA.lt
                            have KCw := KC.below hW KC.lt
                            have Rw := R.below hW R.lt
                            have Yw := Y.below hW Y.lt
                            have Qw := Q.below hW Q.lt
                            have a0 : W.cell? ⟨gA, 0, none⟩ = some (.pointer pA) := KAw.at_ rfl
                            have a1 : W.cell? ⟨gA, 1, none⟩ = some (.int .i64 0) := KAw.at_ rfl
                            have b0 : W.cell? ⟨gC, 0, none⟩ = some (.pointer cp) := KCw.at_ rfl
                            have b1 : W.cell? ⟨gC, 1, none⟩ = some (.int .i64 0) := KCw.at_ rfl
                            have r0 := Rw.rows
                            rw [length_c8, hrc] at r0
                            have r1 := Yw.rows
                            rw [length_c8, hy] at r1
                            have r2 := pair_key Qw hqok
                            have r3 := pair_val Qw hqok
                            simp only [List.append_eq, List.nil_append, List.cons_append, pick, List.getElem?_cons_zero, List.getElem?_cons_succ]
                            clear KAw KCw Rw Yw Qw
                            repeat (go_big_quiet_step (fail))
                            refine wpQuiet_nil ?_
                            rfl
                          case r_6 =>
                            refine held_one 42 (by kernel_rfl) (by rfl) (by rfl) (fun Q' hQ' => ?_)
                            dsimp only [bare]
                            go_wp2_with fail
                            refine hQ' _ _ S9 ?_
                            clear hQ'
                            refine held_end (by kernel_rfl) ?_
                            go_wp2_with fail
                            go_ret
                            exact ⟨rfl, below_two Bw S9 Bw.size⟩
                  · have hne : (y != q.2) = true := by simp [hyq]
                    have hne2 : (y == q.2) = false := by simp [hyq]
                    refine held_quiet (A := ?A_7) [8, 9, 10, 11, 12, 13, 14, 15, 16, 17, 18, 19, 20, 21, 22, 23, 24, 25, 26, 27, 28, 31] (by kernel_rfl) (by kernel_rfl) rfl (by kernel_rfl) (by kernel_rfl) S3 (h := fun W hW => ?h_7) (hr := ?r_7)
                    case h_7 =>
                      have KAw := KA.below hW KA.lt
                      have KCw := KC.below hW KC.lt
                      have Rw := R.below hW R.lt
                      have Yw := Y.below hW Y.lt
                      have Qw := Q.below hW Q.lt
                      have a0 : W.cell? ⟨gA, 0, none⟩ = some (.pointer pA) := KAw.at_ rfl
                      have a1 : W.cell? ⟨gA, 1, none⟩ = some (.int .i64 0) := KAw.at_ rfl
                      have b0 : W.cell? ⟨gC, 0, none⟩ = some (.pointer cp) := KCw.at_ rfl
                      have b1 : W.cell? ⟨gC, 1, none⟩ = some (.int .i64 0) := KCw.at_ rfl
                      have r0 := Rw.rows
                      rw [length_c8, hrc] at r0
                      have r1 := Yw.rows
                      rw [length_c8, hy] at r1
                      have r2 := pair_key Qw hqok
                      have r3 := pair_val Qw hqok
                      simp only [List.append_eq, List.nil_append, List.cons_append, pick, List.getElem?_cons_zero, List.getElem?_cons_succ]
                      clear KAw KCw Rw Yw Qw
                      repeat (go_big_quiet_step (fail))
                      refine wpQuiet_nil ?_
                      rfl
                    case r_7 =>
                      refine held_one 29 (by kernel_rfl) (by rfl) (by rfl) (fun Q' hQ' => ?_)
                      dsimp only [bare]
                      go_wp2_with fail
                      refine (tput_any q.1 q.2 hkq hvq 0 C P0 (.pointer cp) x3 (by omega) (fun i hi => by omega) okC (by omega) ((hatC.below S3).more S3.size)).mono ?_
                      rintro e x5 ⟨qp, rfl, hatD, hx⟩
                      obtain ⟨dp, rfl⟩ := hatD.form
                      change At x5 x5.heap.size (put1 C q.1 q.2) _ at hatD
                      rw [HD.out] at hatD
                      have S5 := below_two S3 hx S3.size
                      clear hx
                      go_wp2_with fail
                      refine hQ' _ _ S5 ?_
                      clear hQ'
                      refine held_one 30 (by kernel_rfl) (by rfl) (by rfl) (fun Q' hQ' => ?_)
                      dsimp only [bare]
                      go_wp2_with fail
                      refine (troot_any T (.pointer dp) 0 x5 hatD).mono ?_
                      rintro e x6 ⟨rfl, hx⟩
                      have S6 := below_two S5 hx S5.size
                      clear hx
                      rw [HrT.out]
                      go_wp2_with fail
                      refine hQ' _ _ S6 ?_
                      clear hQ'
                      refine held_one 32 (by kernel_rfl) (by rfl) (by rfl) (fun Q' hQ' => ?_)
                      dsimp only [bare]
                      go_wp2_with fail
                      refine (troot_any T (.pointer pA) 0 x6 ((hatA.below S6).more S6.size)).mono ?_
                      rintro e x7 ⟨rfl, hx⟩
                      have S7 := below_two S6 hx S6.size
                      clear hx
                      rw [HrT.out]
                      go_wp2_with fail
                      refine hQ' _ _ S7 ?_
                      clear hQ'
                      refine held_quiet (A := ?A_8) [33, 34, 35, 36, 38] (by kernel_rfl) (by kernel_rfl) rfl (by kernel_rfl) (by kernel_rfl) S7 (h := fun W hW => ?h_8) (hr := ?r_8)
                      case h_8 =>
                        have KAw := KA.below hW KA.lt
                        have KCw := KC.below hW KC.lt
                        have Rw := R.below hW R.lt
                        have Yw := Y.below hW Y.lt
                        have Qw := Q.below hW Q.lt
                        have a0 : W.cell? ⟨gA, 0, none⟩ = some (.pointer pA) := KAw.at_ rfl
                        have a1 : W.cell? ⟨gA, 1, none⟩ = some (.int .i64 0) := KAw.at_ rfl
                        have b0 : W.cell? ⟨gC, 0, none⟩ = some (.pointer cp) := KCw.at_ rfl
                        have b1 : W.cell? ⟨gC, 1, none⟩ = some (.int .i64 0) := KCw.at_ rfl
                        have r0 := Rw.rows
                        rw [length_c8, hrc] at r0
                        have r1 := Yw.rows
                        rw [length_c8, hy] at r1
                        have r2 := pair_key Qw hqok
                        have r3 := pair_val Qw hqok
                        simp only [List.append_eq, List.nil_append, List.cons_append, pick, List.getElem?_cons_zero, List.getElem?_cons_succ]
                        clear KAw KCw Rw Yw Qw
                        repeat (go_big_quiet_step (fail))
                        refine wpQuiet_nil ?_
                        rfl
                      case r_8 =>
                        refine held_one 37 (by kernel_rfl) (by rfl) (by rfl) (fun Q' hQ' => ?_)
                        dsimp only [bare]
                        go_wp2_with fail
                        refine (tlen_any C (.pointer cp) 0 x7 ((hatC.below S7).more S7.size)).mono ?_
                        rintro e x8 ⟨rfl, hx⟩
                        have S8 := below_two S7 hx S7.size
                        clear hx
                        rw [HlC.out]
                        go_wp2_with fail
                        refine hQ' _ _ S8 ?_
                        clear hQ'
                        refine held_one 39 (by kernel_rfl) (by rfl) (by rfl) (fun Q' hQ' => ?_)
                        dsimp only [bare]
                        go_wp2_with fail
                        refine (tlen_any T (.pointer pA) 0 x8 ((hatA.below S8).more S8.size)).mono ?_
                        rintro e x9 ⟨rfl, hx⟩
                        have S9 := below_two S8 hx S8.size
                        clear hx
                        go_wp2_with fail
                        refine hQ' _ _ S9 ?_
                        clear hQ'
                        refine held_quiet (A := ?A_9) [40, 41] (by kernel_rfl) (by kernel_rfl) rfl (by kernel_rfl) (by kernel_rfl) S9 (h := fun W hW => ?h_9) (hr := ?r_9)
                        case h_9 =>
                          have KAw := KA.below hW KA.lt
                          have KCw := KC.below hW KC.lt
                          have Rw := R.below hW R.lt
                          have Yw := Y.below hW Y.lt
                          have Qw := Q.below hW Q.lt
                          have a0 : W.cell? ⟨gA, 0, none⟩ = some (.pointer pA) := KAw.at_ rfl
                          have a1 : W.cell? ⟨gA, 1, none⟩ = some (.int .i64 0) := KAw.at_ rfl
                          have b0 : W.cell? ⟨gC, 0, none⟩ = some (.pointer cp) := KCw.at_ rfl
                          have b1 : W.cell? ⟨gC, 1, none⟩ = some (.int .i64 0) := KCw.at_ rfl
                          have r0 := Rw.rows
                          rw [length_c8, hrc] at r0
                          have r1 := Yw.rows
                          rw [length_c8, hy] at r1
                          have r2 := pair_key Qw hqok
                          have r3 := pair_val Qw hqok
                          simp only [List.append_eq, List.nil_append, List.cons_append, pick, List.getElem?_cons_zero, List.getElem?_cons_succ]
                          clear KAw KCw Rw Yw Qw
                          repeat (go_big_quiet_step (fail))
                          refine wpQuiet_nil ?_
                          rfl
                        case r_9 =>
                          refine held_one 42 (by kernel_rfl) (by rfl) (by rfl) (fun Q' hQ' => ?_)
                          dsimp only [bare]
                          go_wp2_with fail
                          refine hQ' _ _ S9 ?_
                          clear hQ'
                          refine held_end (by kernel_rfl) ?_
                          go_wp2_with fail
                          go_ret
                          exact ⟨rfl, below_two Bw S9 Bw.size⟩
              -- /REGION25
            · subst hs; simp at hl0
end Go.Proofs.Ytpalomkcgfalnaa
