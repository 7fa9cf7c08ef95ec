/- witanlaw10.grown: the tree of pairs and they themselves. -/
import Derived.Test.YtpalomkcgfalnaaWitG
set_option linter.unusedVariables false
set_option linter.unusedSimpArgs false
namespace Go.Proofs.Ytpalomkcgfalnaa
open Go Go.RowKit Sh
theorem Ps.mid {w w' : World} {lo B : Nat} {v : Value} {l : List Pr} (h : Ps w lo B v l) (hm : Mid lo B w w') : Ps w' lo B v l := let ⟨h0, A, c, h1, h2, h3, h4⟩ := h; ⟨h0, A, c, h1, h2, h3, h4.mid hm⟩
set_option maxRecDepth 100000 in
set_option maxHeartbeats 400000 in
theorem grown_any (v : Value) (L : List Pr) (w : World) (hv : Ps w 0 w.heap.size v L) :
    Calls Try.prog 36 #[v] w fun e w' => ∃ p u, e = .returned (.tuple #[.agg #[.pointer p, .int .i64 0], u]) ∧ At w' w'.heap.size (puts (L.take 25) .e) (.pointer p) ∧ Ps w' 0 w'.heap.size u (puts (L.take 25) .e).pairs ∧ Below w.heap.size w w' := by
  obtain ⟨A, c, hv1, hc1, hc2⟩ := hv.form
  have hsub := hv.sub
  have hlok := hv.1
  subst hv1
  go_enter Try.func36, Try.ntmps36
  go_wp2_with fail
  obtain ⟨w1, hw1⟩ : ∃ x, x = (w.alloc (Obj.cells #[.pointer none, .int .i64 0] 40)).alloc (Obj.cells #[.pointer none, .int .i64 0] 40) := ⟨_, rfl⟩
  rw [← hw1]
  have KR1 : Bk w1 w.heap.size 40 [.pointer none, .int .i64 0] := by rw [hw1]; exact (Bk.new w _ [_, _]).alloc _
  have KT1 : Bk w1 (w.heap.size + 1) 40 [.pointer none, .int .i64 0] := by rw [hw1]; simpa using Bk.new (w.alloc (Obj.cells #[.pointer none, .int .i64 0] 40)) 40 [.pointer none, .int .i64 0]
  have B1 : Below w.heap.size w w1 := by rw [hw1]; exact ((Below.refl _ _).alloc (Nat.le_refl _) _).alloc (by simp) _
  clear hw1
  obtain ⟨gR, hgR⟩ : ∃ x, x = w.heap.size := ⟨_, rfl⟩
  rw [← hgR] at KR1 KT1 ⊢
  obtain ⟨gT, hgT⟩ : ∃ x, x = gR + 1 := ⟨_, rfl⟩
  rw [← hgT] at KT1 ⊢
  have hRT : gR < gT := by omega
  have zR : w.heap.size ≤ gR := by omega
  have zT0 : w.heap.size ≤ gT := by omega
  clear hgR hgT
  go_loopw [5, 10] (fun s t wr => ∃ (i : Nat) (p : Option Addr), i ≤ L.length ∧ t = .int .i64 (i : Int) ∧ At wr wr.heap.size (puts (L.take (min i 25)) .e) (.pointer p) ∧ Ps wr (gT + 1) wr.heap.size s (puts (L.take (min i 25)) .e).pairs ∧ Bk wr gT 40 [.pointer p, .int .i64 0] ∧ Bk wr gR 40 [.pointer none, .int .i64 0] ∧ Below w.heap.size w wr) (fun _ t _ => L.length - (intOf t).toNat)
  case atStart => exact ⟨0, none, by omega, rfl, rfl, Ps.nil _ _ _, KT1, KR1, B1⟩
  case round =>
    clear KT1 KR1 B1
    obtain ⟨i, p, hi, rfl, hAt, hPs, KT, KR, Bw⟩ := hrel
    have hok : Okt (puts (L.take (min i 25)) .e) := Okt.puts (fun q hq => hlok q (List.mem_of_mem_take hq)) Okt.nil
    have hlen : (puts (L.take (min i 25)) .e).len ≤ 25 := by
      have := len_puts (l := L.take (min i 25)) (fun q hq => hlok q (List.mem_of_mem_take hq)) Okt.nil
      have h2 : (L.take (min i 25)).length ≤ 25 := by simp; omega
      simp only [Tr.len] at this
      omega
    by_cases hlt : i < L.length
    · obtain ⟨q, hp⟩ : ∃ p, L[i]? = some p := ⟨_, List.getElem?_eq_getElem hlt⟩
      have hqok : PrOk q := hlok q (List.mem_of_getElem? hp)
      obtain ⟨g, o, c', hs⟩ := hsub
      rcases hs with ⟨hrow, _, hg, hA, _, _⟩ | hs
      · injection hA with hA _ hA3
        subst hA hA3
        have hr := (hrow i q hp).1
        have hrw : rowAt wr ⟨g, o + i * 64, none⟩ 64 = some (c8 (pb q)) := (rowAt_below Bw hg).trans hr
        have hq1 := hqok.1
        have hq2 := hqok.2
        have hqlen := hqok.len
        obtain ⟨W, hW⟩ : ∃ y, y = putAt (wr.alloc (Obj.cells (c8 (z8 64)).toArray 36)) ⟨wr.heap.size, 0, none⟩ (c8 (pb q)) := ⟨_, rfl⟩
        have hBq : Below wr.heap.size wr W := by rw [hW]; exact below_putAt ((Below.refl _ _).alloc (Nat.le_refl _) _) (Nat.le_refl _) _
        have Q1 : Bk W wr.heap.size 36 (c8 (pb q)) := by rw [hW]; exact Bk.fresh wr _ (by simp [hqlen])
        have KTW := KT.below hBq KT.lt
        have KRW := KR.below hBq KR.lt
        have hAtW := (hAt.below hBq).more hBq.size
        have hPsW := (hPs.below hBq).more hBq.size
        have BW := below_two Bw hBq Bw.size
        by_cases h30 : i < 25
        · have hge : decide ((i : Int) < 25) = true := decide_eq_true (by omega)
          have e1 : min i 25 = i := by omega
          have e2 : min (i + 1) 25 = i + 1 := by omega
          rw [e1] at hok hlen hAtW hPsW
          have htk := take_step hp
          have hst : puts (L.take (min (i + 1) 25)) .e = put1 (puts (L.take i) .e) q.1 q.2 := by rw [e2, htk, puts_app]
          have Hst := Lib.hid hst
          clear hst htk hr hp hrow e1 e2 hAt hPs
          generalize puts (L.take i) .e = T at *
          have zT := KTW.lt
          have zQ := KT.lt
          have t0 : W.cell? ⟨gT, 0, none⟩ = some (.pointer p) := KTW.at_ rfl
          have t1 : W.cell? ⟨gT, 1, none⟩ = some (.int .i64 0) := KTW.at_ rfl
          have qk := pair_key Q1 hqok
          have qv := pair_val Q1 hqok
          rw [hW] at t0 t1 qk qv
          have HPsW := Lib.hid hPsW
          have HRT := Lib.hid hRT
          have HKR := Lib.hid KRW
          clear KR KRW hRT hPsW
          go_wp2_with fail
          rw [← hW]
          refine (tput_any q.1 q.2 hq1 hq2 0 T P0 (.pointer p) W (by omega) (fun i hi => by omega) hok (by omega) hAtW).mono ?_
          rintro e w5 ⟨qp, rfl, hat5, h5⟩
          obtain ⟨ap, rfl⟩ := hat5.form
          change At w5 w5.heap.size (put1 T q.1 q.2) _ at hat5
          have KT5 := KTW.below h5 zT
          have Q5 := Q1.below h5 Q1.lt
          have B5 := below_two BW h5 BW.size
          have hPs5 := HPsW.out.below h5
          have KR5 := HKR.out.below h5 HKR.out.lt
          have zz5 := h5.size
          have f0 := KT5.frozen 0
          have f1 := KT5.frozen 1
          have z0 := KT5.at_ (i := 0) rfl
          have z1 := KT5.at_ (i := 1) rfl
          obtain ⟨w6, hw6⟩ : ∃ x, x = (w5.setCell ⟨gT, 0, none⟩ (.pointer ap)).setCell ⟨gT, 1, none⟩ (.int .i64 0) := ⟨_, rfl⟩
          have KT6 : Bk w6 gT 40 [.pointer ap, .int .i64 0] := by rw [hw6]; exact (KT5.set_ 0 (.pointer ap)).set_ 1 (.int .i64 0)
          have At6 : At w6 w6.heap.size (put1 T q.1 q.2) (.pointer ap) := by rw [hw6]; exact ((hat5.set_ KT5 (by decide) 0 _).set_ (KT5.set_ 0 (.pointer ap)) (by decide) 1 _).more (by simp)
          have z56 : w6.heap.size = w5.heap.size := by rw [hw6]; simp
          have B6 : Below w.heap.size w w6 := by rw [hw6]; exact (B5.setCell (p := ⟨gT, 0, none⟩) zT0 _).setCell (p := ⟨gT, 1, none⟩) zT0 _
          have Q6 : Bk w6 wr.heap.size 36 (c8 (pb q)) := by rw [hw6]; exact (Q5.far (by simp; omega) _).far (by simp; omega) _
          have KR6 : Bk w6 gR 40 [.pointer none, .int .i64 0] := by rw [hw6]; exact (KR5.far (by have := HRT.out; simp; omega) _).far (by have := HRT.out; simp; omega) _
          have Ps6 : Ps w6 (gT + 1) w6.heap.size u5 T.pairs := by
            refine Ps.mid (w := w5) (Ps.more hPs5 (by omega)) ?_
            rw [hw6]
            exact ((Mid.refl _ _ _).setCell (p := ⟨gT, 0, none⟩) (.inl (show gT < gT + 1 by omega)) _).setCell (p := ⟨gT, 1, none⟩) (.inl (show gT < gT + 1 by omega)) _
          have HPs6 := Lib.hid Ps6
          have HKR6 := Lib.hid KR6
          have r6 := pair_all Q6 hqok
          rw [hw6] at r6
          clear h5 hW t0 t1 qk qv hat5 Ps6 KR5 KR6 Q5 KT5 B5 hAtW KTW Q1 BW HPsW HKR hPs5
          go_wp2_with fail
          rw [← hw6]
          clear hw6 r6
          obtain ⟨A6, c6, hu6, hcu1, hcu2⟩ := HPs6.out.form
          refine (refput_any q.1 q.2 hq1 hq2 T P0 hok (by omega) u5 w6 (HPs6.out.less (Nat.zero_le _))).mono ?_
          rintro e w7 ⟨u7, rfl, hO7, h7⟩
          change OwnP w7 w6.heap.size u7 (put1 T q.1 q.2).pairs at hO7
          have Ps7 : Ps w7 (gT + 1) w7.heap.size u7 (put1 T q.1 q.2).pairs := hO7.ps.less (by have := KT6.lt; omega)
          have At7 := (At6.below h7).more h7.size
          have KT7 := KT6.below h7 KT6.lt
          have KR7 := HKR6.out.below h7 HKR6.out.lt
          have B7 := below_two B6 h7 B6.size
          have HPs7 := Lib.hid Ps7
          have HKR7 := Lib.hid KR7
          clear Ps7 KR7 hu6
          go_wp2_with fail
          go_roundw
          case rel => exact ⟨i + 1, ap, by omega, by go_num, by rw [Hst.out]; exact At7, by rw [Hst.out]; exact HPs7.out, KT7, HKR7.out, B7⟩
          case measure => simp [intOf]; omega
        · have hge : decide ((i : Int) < 25) = false := decide_eq_false (by omega)
          have e2 : min (i + 1) 25 = min i 25 := by omega
          have E2 := Lib.hid e2
          have HPsW := Lib.hid hPsW
          have HRT := Lib.hid hRT
          have HKR := Lib.hid KRW
          clear e2 hPsW hRT KRW KR hPs
          go_wp2_with fail
          rw [← hW]
          go_roundw
          case rel => exact ⟨i + 1, p, by omega, by go_num, by rw [E2.out]; exact hAtW, by rw [E2.out]; exact HPsW.out, KTW, HKR.out, BW⟩
          case measure => simp [intOf]; omega
      · subst hs; simp at hlt
    · have e25 : L.take (min i 25) = L.take 25 := by
        obtain rfl : i = L.length := by omega
        rcases Nat.le_total L.length 25 with h | h
        · rw [Nat.min_eq_left h, List.take_length, List.take_of_length_le h]
        · rw [Nat.min_eq_right h]
      rw [e25] at hAt hPs
      have HPs := Lib.hid hPs
      have HRT := Lib.hid hRT
      clear hPs hRT e25 hok hlen
      have d0 := KT.at_ (i := 0) rfl
      have d1 := KT.at_ (i := 1) rfl
      have e0 := KR.at_ (i := 0) rfl
      have e1 := KR.at_ (i := 1) rfl
      have f0 := KR.frozen 0
      have f1 := KR.frozen 1
      have KR2 : Bk ((wr.setCell ⟨gR, 0, none⟩ (.pointer p)).setCell ⟨gR, 1, none⟩ (.int .i64 0)) gR 40 [.pointer p, .int .i64 0] := (KR.set_ 0 (.pointer p)).set_ 1 (.int .i64 0)
      have At2 : At ((wr.setCell ⟨gR, 0, none⟩ (.pointer p)).setCell ⟨gR, 1, none⟩ (.int .i64 0)) wr.heap.size (puts (L.take 25) .e) (.pointer p) := (hAt.set_ KR (by decide) 0 _).set_ (KR.set_ 0 (.pointer p)) (by decide) 1 _
      have Ps2 : Ps ((wr.setCell ⟨gR, 0, none⟩ (.pointer p)).setCell ⟨gR, 1, none⟩ (.int .i64 0)) 0 wr.heap.size u5 (puts (L.take 25) .e).pairs := by
        refine Ps.less (Ps.mid (w := wr) HPs.out ?_) (Nat.zero_le _)
        exact ((Mid.refl _ _ _).setCell (p := ⟨gR, 0, none⟩) (.inl (show gR < gT + 1 by have := HRT.out; omega)) _).setCell (p := ⟨gR, 1, none⟩) (.inl (show gR < gT + 1 by have := HRT.out; omega)) _
      have zz : ((wr.setCell ⟨gR, 0, none⟩ (.pointer p)).setCell ⟨gR, 1, none⟩ (.int .i64 0)).heap.size = wr.heap.size := by simp
      rw [← zz] at At2 Ps2
      have HPs2 := Lib.hid Ps2
      clear Ps2 zz
      go_wp2_with fail
      refine bodyPost_ret (results_two rfl (ResAt.row KR2 rfl _ Try.underlying40 rfl (by kernel_rfl)) (ResAt.tmp rfl)) rfl ⟨p, u5, rfl, At2, HPs2.out, ?_⟩
      exact (Bw.setCell (p := ⟨gR, 0, none⟩) zR _).setCell (p := ⟨gR, 1, none⟩) zR _
end Go.Proofs.Ytpalomkcgfalnaa
