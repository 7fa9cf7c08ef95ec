import Derived.Test.YtlegpkdighoflaaMA
import Derived.Test.YtlegpkdighoflaaMB
import Derived.WalkKit
import Derived.WalkLawsBesides
import Derived.Outline
import Derived.Lib.Hide
set_option linter.unusedVariables false
set_option linter.unusedSimpArgs false
namespace Go.Proofs.Ytlegpkdighoflaa
open Go Go.RowKit Sh
def h0 : List UInt32 := squares.map fun (r : UInt64) => (r >>> 32).toUInt32
theorem len_h0 : h0.length = 8 := by decide +kernel
theorem step_h0 (k : Nat) (hk : k < 8) : (c32 (h0.take k ++ (z32 8).drop k)).set k (.int .u32 (n32 ((g64 squares k) >>> 32).toUInt32)) = c32 (h0.take (k + 1) ++ (z32 8).drop (k + 1)) := by
  rw [c32_set]
  congr 1
  refine set_join _ _ _ _ (by simp [len_h0]) (by rw [len_h0]; exact hk) ?_
  unfold h0 g64
  have hl : squares.length = 8 := by decide +kernel
  rw [List.getElem?_map, List.getElem?_eq_getElem (by omega)]
  simp [hl, hk]
set_option maxRecDepth 100000 in
set_option maxHeartbeats 4000000 in
theorem sum256_any (v : Value) (ls : List (List UInt8)) (w : World) (hp : Parts w w.heap.size v ls) (hsz : ls.flatten.length ≤ 1099511627776) :
    Calls Try.prog 49 #[v] w fun e w' => e = .returned (A8 (sum32 ls.flatten)) ∧ Below w.heap.size w w' := by
  have hsq : squares.length = 8 := by decide +kernel
  go_enter Try.func49, Try.ntmps49
  go_wp2_with fail
  refine (roots_any _).mono ?_; rintro e w1 ⟨rfl, hb1⟩
  have R1 : Bk w1 w.heap.size 24 (c8 (z8 32)) := ((Bk.new w _ _).alloc _).below hb1 (by simp; omega)
  have H1 : Bk w1 (w.heap.size + 1) 111 (c32 (z32 8)) := (by simpa using Bk.new (w.alloc (.cells (c8 (z8 32)).toArray 24)) 111 (c32 (z32 8)) : Bk _ (w.heap.size + 1) _ _).below hb1 (by simp)
  have B1 : Below w.heap.size w w1 := (((Below.refl _ _).alloc (Nat.le_refl _) _).alloc (by simp) _).trans (hb1.mono (by simp; omega))
  clear hb1
  go_wp2_with fail
  go_loopw [24] (fun i wr => ∃ k : Nat, k ≤ 8 ∧ i = .int .i64 k ∧ Bk wr w.heap.size 24 (c8 (z8 32)) ∧ Bk wr (w.heap.size + 1) 111 (c32 (h0.take k ++ (z32 8).drop k)) ∧ Below w.heap.size w wr) (fun i _ => 8 - (intOf i).toNat)
  case atStart => exact ⟨0, by omega, rfl, R1, H1, B1⟩
  case round =>
    obtain ⟨k, hk, rfl, Rr, Hr, Br⟩ := hrel
    clear R1 H1 B1
    by_cases hlt : k < 8
    · have hcl : wr.cell? ⟨w.heap.size + 1, k, none⟩ = some (.int .u32 (n32 (g32 (h0.take k ++ (z32 8).drop k) k))) := Hr.at_ (c32_at (by simp [len_h0]; omega))
      have hfz := Hr.frozen k
      go_wp2
      go_roundw
      case rel => exact ⟨k + 1, by omega, by go_num, Rr.far (by simp) _, by have := Hr.set_ k (.int .u32 (n32 ((g64 squares k) >>> 32).toUInt32)); rwa [step_h0 k hlt] at this, Br.setCell (by simp) _⟩
      case measure => simp [intOf]; omega
    · obtain rfl : k = 8 := by omega
      go_wp2_with fail
      refine (cubes_any _).mono ?_; rintro e w2 ⟨rfl, hb2⟩
      have h8 : h0.take 8 ++ (z32 8).drop 8 = h0 := by decide +kernel
      rw [h8] at Hr
      have R2 := Rr.below hb2 Rr.lt
      have H2 := Hr.below hb2 Hr.lt
      have B2 := Br.trans (hb2.mono Br.size)
      have l2 := H2.lt
      have hcu : cubes.length = 80 := by decide +kernel
      clear hb2 Rr Hr Br h8
      go_wp2_with fail
      obtain ⟨w3, hw3⟩ : ∃ x, x = (putAt (w2.alloc (Obj.cells (c64 (z64 80)).toArray 114)) ⟨w2.heap.size, 0, none⟩ (c64 cubes)).alloc (Obj.cells (c32 (z32 64)).toArray 116) := ⟨_, rfl⟩
      rw [← hw3]
      have K3 : Bk w3 w2.heap.size 114 (c64 cubes) := by rw [hw3]; exact ((Bk.new _ _ _).puts (by simp [hcu])).alloc _
      have M3 : Bk w3 (w2.heap.size + 1) 116 (c32 (z32 64)) := by rw [hw3]; simpa using Bk.new (putAt (w2.alloc (Obj.cells (c64 (z64 80)).toArray 114)) ⟨w2.heap.size, 0, none⟩ (c64 cubes)) 116 (c32 (z32 64))
      have R3 : Bk w3 w.heap.size 24 (c8 (z8 32)) := by rw [hw3]; exact ((R2.alloc _).putFar (by simp; omega) _).alloc _
      have H3 : Bk w3 (w.heap.size + 1) 111 (c32 h0) := by rw [hw3]; exact ((H2.alloc _).putFar (by simp; omega) _).alloc _
      have B3 : Below w.heap.size w w3 := by rw [hw3]; exact (below_putAt (B2.alloc B2.size _) (by exact B2.size) _).alloc (by simp; have := B2.size; omega) _
      have l3 : w3.heap.size = w2.heap.size + 2 := by rw [hw3]; simp
      have P3 : Parts w3 w3.heap.size v ls := (hp.below B3).more B3.size
      generalize hgk : w2.heap.size = gk at *
      clear hw3 R2 H2 B2 hcu
      refine (padded_any 64 (.inl rfl) v ls w3 P3 hsz).mono ?_
      rintro e w4 ⟨u, rfl, hu, hb4⟩
      have K4 := K3.below hb4 K3.lt
      have M4 := M3.below hb4 M3.lt
      have R4 := R3.below hb4 R3.lt
      have H4 := H3.below hb4 H3.lt
      have B4 := B3.trans (hb4.mono B3.size)
      have l4 := hb4.size
      have m3 := M3.lt
      generalize hpd : pad 64 ls.flatten = p at *
      clear hb4 K3 M3 R3 H3 B3 P3 hp
      have Hp := Lib.hid hpd
      have hmod : p.length % 64 = 0 := by rw [← hpd]; exact (pad_mod _).1
      clear hpd l3 hgk w2
      go_wp2_with fail
      go_loopw [8] (fun b wr => ∃ i : Nat, 64 * i ≤ p.length ∧ By w4 w3.heap.size w4.heap.size b (p.drop (64 * i)) ∧ Bk wr w.heap.size 24 (c8 (z8 32)) ∧ Bk wr (w.heap.size + 1) 111 (c32 (state32 p i)) ∧ Bk wr gk 114 (c64 cubes) ∧ (∃ M, M.length = 64 ∧ Bk wr (gk + 1) 116 (c32 M)) ∧ Below w.heap.size w wr ∧ w4.heap.size ≤ wr.heap.size ∧ Mid w3.heap.size w4.heap.size w4 wr) (fun b _ => lenV b)
      case atStart => exact ⟨0, by omega, by simpa using hu, R4, H4, K4, ⟨_, by simp, M4⟩, B4, Nat.le_refl _, Mid.refl _ _ _⟩
      case round =>
        obtain ⟨i, hi, hb, Rr, Hr, Kr, ⟨M, hM, Mr⟩, Br, lr, Dr⟩ := hrel
        clear hu R4 H4 K4 M4 B4
        obtain ⟨A, c, rfl, hc, hcm, hrd⟩ := hb.open_
        generalize hq : p.drop (64 * i) = q at *
        have hql : q.length = p.length - 64 * i := by rw [← hq]; simp
        have hqm : q.length % 64 = 0 := by omega
        have Hq := Lib.hid hq
        have Hql := Lib.hid hql
        clear hq hql hb hmod
        by_cases hgo : 0 < q.length
        · obtain ⟨g, o, rfl, hgl, hg, hcell⟩ := hrd.some (by simpa using hgo)
          have hq64 : 64 ≤ q.length := by omega
          clear hqm
          go_wp2_with fail
          obtain ⟨wo, rfl⟩ : ∃ wo : World, wo = wr := ⟨_, rfl⟩
          go_loopw [42] (fun t wr => ∃ k : Nat, k ≤ 16 ∧ t = .int .i64 k ∧ Bk wr w.heap.size 24 (c8 (z8 32)) ∧ Bk wr (w.heap.size + 1) 111 (c32 (state32 p i)) ∧ Bk wr gk 114 (c64 cubes) ∧ (∃ M, M.length = 64 ∧ M.take k = W32 q k ∧ Bk wr (gk + 1) 116 (c32 M)) ∧ Below w.heap.size w wr ∧ w4.heap.size ≤ wr.heap.size ∧ Mid w3.heap.size w4.heap.size w4 wr) (fun t _ => 16 - (intOf t).toNat)
          case atStart => exact ⟨0, by omega, rfl, Rr, Hr, Kr, ⟨M, hM, rfl, Mr⟩, Br, lr, Dr⟩
          case round =>
            clear Rr Hr Kr Mr Br lr Dr hM M
            obtain ⟨k, hk, rfl, Rr, Hr, Kr, ⟨M, hM, hMW, Mr⟩, Br, lr, Dr⟩ := hrel
            have HW := Lib.hid hMW
            clear hMW
            by_cases hlt : k < 16
            · have e0 : wr.cell? ⟨g, o + 4 * k, none⟩ = some (.int .u8 (n8 (g8 q (4 * k)))) := (Dr.cell hgl hg).trans (cell8 hcell (by omega))
              have e1 : wr.cell? ⟨g, o + (4 * k + 1), none⟩ = some (.int .u8 (n8 (g8 q (4 * k + 1)))) := (Dr.cell hgl hg).trans (cell8 hcell (by omega))
              have e2 : wr.cell? ⟨g, o + (4 * k + 2), none⟩ = some (.int .u8 (n8 (g8 q (4 * k + 2)))) := (Dr.cell hgl hg).trans (cell8 hcell (by omega))
              have e3 : wr.cell? ⟨g, o + (4 * k + 3), none⟩ = some (.int .u8 (n8 (g8 q (4 * k + 3)))) := (Dr.cell hgl hg).trans (cell8 hcell (by omega))
              have em : wr.cell? ⟨gk + 1, k, none⟩ = some (.int .u32 (n32 (g32 M k))) := Mr.at_ (c32_at (by omega))
              have ef := Mr.frozen k
              clear hcell
              go_wp2_with fail
              refine wp_quiet_tail 35 (by kernel_rfl) (by kernel_rfl) ?_
              simp only [List.take_succ_cons, List.take_zero, List.drop_succ_cons, List.drop_zero]
              repeat (go_big_quiet_step (fail))
              refine wpQuiet_nil ?_
              rintro w' ⟨nq, rfl⟩
              go_wp2_with fail
              go_roundw
              case rel =>
                refine ⟨k + 1, by omega, by go_num, (Rr.drewN nq).far (by simp; omega) _, (Hr.drewN nq).far (by simp; omega) _, (Kr.drewN nq).far (by simp) _, ⟨M.set k (word32 q k), by simp [hM], W32_lo q M k (by omega) hlt HW.out, ?_⟩, (below_drewN Br nq).setCell (by simp; omega) _, by simpa using lr, (Dr.drewN nq).setCell (by simp; omega) _⟩
                rw [← c32_set]
                exact (Mr.drewN nq).set_ k _
              case measure => simp [intOf]; omega
            · obtain rfl : k = 16 := by omega
              go_wp2_with fail
              obtain ⟨wo, rfl⟩ : ∃ wo : World, wo = wr := ⟨_, rfl⟩
              go_loopw [10] (fun t wr => ∃ k : Nat, 16 ≤ k ∧ k ≤ 64 ∧ t = .int .i64 k ∧ Bk wr w.heap.size 24 (c8 (z8 32)) ∧ Bk wr (w.heap.size + 1) 111 (c32 (state32 p i)) ∧ Bk wr gk 114 (c64 cubes) ∧ (∃ M, M.length = 64 ∧ M.take k = W32 q k ∧ Bk wr (gk + 1) 116 (c32 M)) ∧ Below w.heap.size w wr ∧ w4.heap.size ≤ wr.heap.size ∧ Mid w3.heap.size w4.heap.size w4 wr) (fun t _ => 64 - (intOf t).toNat)
              case atStart => exact ⟨16, by omega, by omega, rfl, Rr, Hr, Kr, ⟨M, hM, HW.out, Mr⟩, Br, lr, Dr⟩
              case round =>
                clear Rr Hr Kr Mr Br lr Dr hM HW M hcell
                obtain ⟨k, hk16, hk, rfl, Rr, Hr, Kr, ⟨M, hM, hMW, Mr⟩, Br, lr, Dr⟩ := hrel
                have HW := Lib.hid hMW
                clear hMW
                by_cases hlt : k < 64
                · have e0 : wr.cell? ⟨gk + 1, k - 15, none⟩ = some (.int .u32 (n32 (g32 M (k - 15)))) := Mr.at_ (c32_at (by omega))
                  have e1 : wr.cell? ⟨gk + 1, k - 2, none⟩ = some (.int .u32 (n32 (g32 M (k - 2)))) := Mr.at_ (c32_at (by omega))
                  have e2 : wr.cell? ⟨gk + 1, k - 7, none⟩ = some (.int .u32 (n32 (g32 M (k - 7)))) := Mr.at_ (c32_at (by omega))
                  have e3 : wr.cell? ⟨gk + 1, k - 16, none⟩ = some (.int .u32 (n32 (g32 M (k - 16)))) := Mr.at_ (c32_at (by omega))
                  have em : wr.cell? ⟨gk + 1, k, none⟩ = some (.int .u32 (n32 (g32 M k))) := Mr.at_ (c32_at (by omega))
                  have ef := Mr.frozen k
                  go_wp2_with fail
                  go_quiet (fail)
                  go_wp2_with fail
                  refine wp_quiet_tail 29 (by kernel_rfl) (by kernel_rfl) ?_
                  simp only [List.take_succ_cons, List.take_zero, List.drop_succ_cons, List.drop_zero]
                  repeat (go_big_quiet_step ((go_at_call 56; first | exact quiet_same (rot32 _ _ (by omega)) | exact quiet_same2 (rot32 _ _ (by omega)))))
                  refine wpQuiet_nil ?_
                  rintro w' ⟨nq2, rfl⟩
                  go_wp2_with fail
                  go_roundw
                  case rel =>
                    refine ⟨k + 1, by omega, by omega, by go_num, (Rr.drewN _).far (by simp; omega) _, (Hr.drewN _).far (by simp; omega) _, (Kr.drewN _).far (by simp) _, ⟨M.set k (next32 (g32 M (k - 2)) (g32 M (k - 7)) (g32 M (k - 15)) (g32 M (k - 16))), by simp [hM], W32_hi q M k (by omega) hk16 HW.out, ?_⟩, (below_drewN Br _).setCell (by simp; omega) _, by simpa using lr, (Dr.drewN _).setCell (by simp; omega) _⟩
                    rw [← c32_set]
                    exact (Mr.drewN (nq + nq2)).set_ k _
                  case measure => simp [intOf]; omega
                · obtain rfl : k = 64 := by omega
                  have hls := length_state32 p i
                  have hrow : rowAt wr ⟨w.heap.size + 1, 0, none⟩ 8 = some (c32 (state32 p i)) := by have := Hr.rows; rwa [length_c32, hls] at this
                  obtain ⟨X, hX⟩ : ∃ X, X = W32 q 64 := ⟨_, rfl⟩
                  have hMe := W32_all q M HW.out hM
                  rw [hMe, ← hX] at Mr
                  have hXl : X.length = 64 := by rw [hX]; exact length_W32 q 64
                  have HX := Lib.hid hX
                  clear hX hMe
                  have hgv := Hr.lt
                  have hgv3 := lr
                  go_wp2_with fail
                  generalize hgv' : wr.heap.size = gv at *
                  obtain ⟨wv, hwv⟩ : ∃ x, x = putAt (wr.alloc (Obj.cells (c32 (z32 8)).toArray 111)) ⟨gv, 0, none⟩ (c32 (state32 p i)) := ⟨_, rfl⟩
                  rw [← hwv]
                  have V0 : Bk wv gv 111 (c32 (state32 p i)) := by rw [hwv]; have := Bk.new wr 111 (c32 (z32 8)); rw [hgv'] at this; exact this.puts (by simp [hls])
                  have R0 : Bk wv w.heap.size 24 (c8 (z8 32)) := by rw [hwv]; exact (Rr.alloc _).putFar (by simp; omega) _
                  have H0 : Bk wv (w.heap.size + 1) 111 (c32 (state32 p i)) := by rw [hwv]; exact (Hr.alloc _).putFar (by simp; omega) _
                  have K0 : Bk wv gk 114 (c64 cubes) := by rw [hwv]; exact (Kr.alloc _).putFar (by simp; omega) _
                  have M0 : Bk wv (gk + 1) 116 (c32 X) := by rw [hwv]; exact (Mr.alloc _).putFar (by simp; omega) _
                  have B0 : Below w.heap.size w wv := by rw [hwv]; exact below_putAt (Br.alloc Br.size _) (by simp; omega) _
                  have L0 : w4.heap.size ≤ wv.heap.size := by rw [hwv]; simp; omega
                  have D0 : Mid w3.heap.size w4.heap.size w4 wv := by rw [hwv]; exact (Dr.alloc (by omega) _).putAt (by simp; omega) _
                  clear hwv hrow Rr Hr Kr Mr Br Dr HW hM hgv' lr wr
                  go_loopw [123] (fun t wr => ∃ k : Nat, k ≤ 64 ∧ t = .int .i64 k ∧ Bk wr w.heap.size 24 (c8 (z8 32)) ∧ Bk wr (w.heap.size + 1) 111 (c32 (state32 p i)) ∧ Bk wr gk 114 (c64 cubes) ∧ Bk wr (gk + 1) 116 (c32 X) ∧ Bk wr gv 111 (c32 (turns32 (state32 p i) X k)) ∧ Below w.heap.size w wr ∧ w4.heap.size ≤ wr.heap.size ∧ Mid w3.heap.size w4.heap.size w4 wr) (fun t _ => 64 - (intOf t).toNat)
                  case atStart => exact ⟨0, by omega, rfl, R0, H0, K0, M0, V0, B0, L0, D0⟩
                  case round =>
                    clear R0 H0 K0 M0 V0 B0 L0 D0 wv
                    obtain ⟨k, hk, rfl, Rr, Hr, Kr, Mr, Vr, Br, lr, Dr⟩ := hrel
                    have hv8 := length_turns32 (state32 p i) X hls k
                    have hstep : turns32 (state32 p i) X (k + 1) = round32 (turns32 (state32 p i) X k) (K32 k) (g32 X k) := rfl
                    have Hst := Lib.hid hstep
                    clear hstep
                    generalize hV : turns32 (state32 p i) X k = V at *
                    have HV := Lib.hid hV
                    clear hV
                    by_cases hlt : k < 64
                    · have v0 : wr.cell? ⟨gv, 0, none⟩ = some (.int .u32 (n32 (g32 V 0))) := Vr.at_ (c32_at (by omega))
                      have v1 : wr.cell? ⟨gv, 1, none⟩ = some (.int .u32 (n32 (g32 V 1))) := Vr.at_ (c32_at (by omega))
                      have v2 : wr.cell? ⟨gv, 2, none⟩ = some (.int .u32 (n32 (g32 V 2))) := Vr.at_ (c32_at (by omega))
                      have v3 : wr.cell? ⟨gv, 3, none⟩ = some (.int .u32 (n32 (g32 V 3))) := Vr.at_ (c32_at (by omega))
                      have v4 : wr.cell? ⟨gv, 4, none⟩ = some (.int .u32 (n32 (g32 V 4))) := Vr.at_ (c32_at (by omega))
                      have v5 : wr.cell? ⟨gv, 5, none⟩ = some (.int .u32 (n32 (g32 V 5))) := Vr.at_ (c32_at (by omega))
                      have v6 : wr.cell? ⟨gv, 6, none⟩ = some (.int .u32 (n32 (g32 V 6))) := Vr.at_ (c32_at (by omega))
                      have v7 : wr.cell? ⟨gv, 7, none⟩ = some (.int .u32 (n32 (g32 V 7))) := Vr.at_ (c32_at (by omega))
                      have ek : wr.cell? ⟨gk, k, none⟩ = some (.int .u64 (n64 (g64 cubes k))) := Kr.at_ (c64_at (by simp [cubes]; omega))
                      have em : wr.cell? ⟨gk + 1, k, none⟩ = some (.int .u32 (n32 (g32 X k))) := Mr.at_ (c32_at (by omega))
                      have hcan : canAt wr ⟨gv, 0, none⟩ 8 = true := Vr.can (by simp [hv8])
                      go_wp2_with fail
                      go_quiet (fail)
                      go_wp2_with fail
                      go_quiet ((go_at_call 56; first | exact quiet_same (rot32 _ _ (by omega)) | exact quiet_same2 (rot32 _ _ (by omega))))
                      go_wp2_with fail
                      go_quiet ((go_at_call 56; first | exact quiet_same (rot32 _ _ (by omega)) | exact quiet_same2 (rot32 _ _ (by omega))))
                      go_wp2_with fail
                      go_roundw
                      case rel =>
                        refine ⟨k + 1, by omega, by go_num, (Rr.drewN _).putFar (by simp; omega) _, (Hr.drewN _).putFar (by simp; omega) _, (Kr.drewN _).putFar (by simp; omega) _, (Mr.drewN _).putFar (by simp; omega) _, ?_, below_putAt (below_drewN Br _) (by simp; omega) _, by simpa using lr, (Dr.drewN _).putAt (by simp; omega) _⟩
                        rw [Hst.out]
                        exact (Vr.drewN _).puts (by simp [hv8])
                      case measure => simp [intOf]; omega
                    · obtain rfl : k = 64 := by omega
                      go_wp2_with fail
                      obtain ⟨wo, rfl⟩ : ∃ wo : World, wo = wr := ⟨_, rfl⟩
                      go_loopw [207] (fun t wr => ∃ k : Nat, k ≤ 8 ∧ t = .int .i64 k ∧ Bk wr w.heap.size 24 (c8 (z8 32)) ∧ Bk wr (w.heap.size + 1) 111 (c32 ((Sh.add32 (state32 p i) V).take k ++ (state32 p i).drop k)) ∧ Bk wr gk 114 (c64 cubes) ∧ Bk wr (gk + 1) 116 (c32 X) ∧ Bk wr gv 111 (c32 V) ∧ Below w.heap.size w wr ∧ w4.heap.size ≤ wr.heap.size ∧ Mid w3.heap.size w4.heap.size w4 wr) (fun t _ => 8 - (intOf t).toNat)
                      case atStart => exact ⟨0, by omega, rfl, Rr, by simpa using Hr, Kr, Mr, Vr, Br, lr, Dr⟩
                      case round =>
                        clear Rr Hr Kr Mr Vr Br lr Dr wo
                        obtain ⟨k, hk, rfl, Rr, Hr, Kr, Mr, Vr, Br, lr, Dr⟩ := hrel
                        have hal : (Sh.add32 (state32 p i) V).length = 8 := by simp [Sh.add32, hls, hv8]
                        by_cases hlt : k < 8
                        · have eh : wr.cell? ⟨w.heap.size + 1, k, none⟩ = some (.int .u32 (n32 (g32 (state32 p i) k))) := by
                            have := Hr.at_ (c32_at (i := k) (by simp [hal, hls]; omega))
                            rwa [g32_join _ _ _ (by omega)] at this
                          have ev : wr.cell? ⟨gv, k, none⟩ = some (.int .u32 (n32 (g32 V k))) := Vr.at_ (c32_at (by omega))
                          have ef := Hr.frozen k
                          go_wp2_with fail
                          refine wp_quiet_tail 8 (by kernel_rfl) (by kernel_rfl) ?_
                          simp only [List.take_succ_cons, List.take_zero, List.drop_succ_cons, List.drop_zero]
                          repeat (go_big_quiet_step (fail))
                          refine wpQuiet_nil ?_
                          rintro w' ⟨nq, rfl⟩
                          go_wp2_with fail
                          go_roundw
                          case rel =>
                            refine ⟨k + 1, by omega, by go_num, (Rr.drewN nq).far (by simp) _, ?_, (Kr.drewN nq).far (by simp; omega) _, (Mr.drewN nq).far (by simp; omega) _, (Vr.drewN nq).far (by simp; omega) _, (below_drewN Br nq).setCell (by simp) _, by simpa using lr, (Dr.drewN nq).setCell (by simp; omega) _⟩
                            rw [← add32_step _ _ hls hv8 k hlt, ← c32_set]
                            exact (Hr.drewN nq).set_ k _
                          case measure => simp [intOf]; omega
                        · obtain rfl : k = 8 := by omega
                          have hnew : Bk wr (w.heap.size + 1) 111 (c32 (state32 p (i + 1))) := by
                            have e : state32 p (i + 1) = (Sh.add32 (state32 p i) V).take 8 ++ (state32 p i).drop 8 := by
                              rw [List.take_of_length_le (by omega), List.drop_of_length_le (by omega), List.append_nil]
                              show block32 (state32 p i) (p.drop (64 * i)) = _
                              unfold block32
                              rw [Hq.out, ← HX.out, HV.out]
                            rw [e]; exact Hr
                          clear Hr
                          go_wp2_with fail
                          go_roundw
                          case rel =>
                            have hpl : 64 * (i + 1) ≤ p.length := by have := Hql.out; omega
                            refine ⟨i + 1, hpl, ?_, Rr, hnew, Kr, ⟨X, hXl, Mr⟩, Br, lr, Dr⟩
                            have e : p.drop (64 * (i + 1)) = q.drop 64 := by rw [← Hq.out, List.drop_drop]; congr 1
                            rw [e]
                            have h1 := hrd.cut (k := 64) (cap := c) (by simpa using hc)
                            have h2 : (if c = 64 then some (⟨g, o, none⟩ : Addr) else (some (⟨g, o, none⟩ : Addr)).map (·.add 64)) = (if c = 64 then some ⟨g, o, none⟩ else some ⟨g, o + 64, none⟩) := by simp [addr_lit]
                            rw [h2] at h1
                            have h3 : q.length - 64 = (q.drop 64).length := by simp
                            rw [h3]
                            exact By.mk_ (by simp; omega) (by simp [maxLen]; omega) (by rw [List.map_drop]; exact h1)
                          case measure => simp [lenV]; omega
        · have hq0 : q.length = 0 := by omega
          have hpi : 64 * i = p.length := by have := Hql.out; omega
          have hls := length_state32 p i
          have hrow : rowAt wr ⟨w.heap.size + 1, 0, none⟩ 8 = some (c32 (state32 p i)) := by have := Hr.rows; rwa [length_c32, hls] at this
          have hlh := Hr.lt
          have hst : out32 (state32 p i) = sum32 ls.flatten := by
            unfold sum32
            rw [Hp.out, ← hpi, Nat.mul_div_cancel_left _ (by decide)]
          have HS := Lib.hid hst
          generalize state32 p i = S at *
          clear hst hrd hpi Dr Kr Mr
          go_wp2_with fail
          obtain ⟨wv, hwv⟩ : ∃ x, x = wr.alloc (Obj.cells (c8 (z8 32)).toArray 24) := ⟨_, rfl⟩
          rw [← hwv]
          generalize hgo' : wr.heap.size = go at *
          have O0 : Bk wv go 24 (c8 (z8 32)) := by rw [hwv, ← hgo']; exact Bk.new _ _ _
          have R0 : Bk wv w.heap.size 24 (c8 (z8 32)) := by rw [hwv]; exact Rr.alloc _
          have B0 : Below w.heap.size w wv := by rw [hwv]; exact Br.alloc (by omega) _
          have l0 : wv.heap.size = go + 1 := by rw [hwv]; simp [hgo']
          clear hwv hrow Rr Hr Br hgo' lr
          have hbg : w.heap.size + 1 < go := hlh
          go_loopw [220] (fun t wr => ∃ k : Nat, k ≤ 8 ∧ t = .int .i64 k ∧ Bk wr go 24 (c8 ((out32 S).take (4 * k) ++ (z8 32).drop (4 * k))) ∧ Bk wr w.heap.size 24 (c8 (z8 32)) ∧ Below w.heap.size w wr) (fun t _ => 8 - (intOf t).toNat)
          case atStart => exact ⟨0, by omega, rfl, by simpa using O0, R0, B0⟩
          case round =>
            clear O0 R0 B0 l0
            obtain ⟨k, hk, rfl, Or, Rr, Br⟩ := hrel
            have hol := length_out32 S
            have hlen : ((out32 S).take (4 * k) ++ (z8 32).drop (4 * k)).length = 32 := by simp [hol, hls]; omega
            by_cases hlt : k < 8
            · have e0 : wr.cell? ⟨go, 4 * k, none⟩ = some (.int .u8 (n8 (g8 ((out32 S).take (4 * k) ++ (z8 32).drop (4 * k)) (4 * k)))) := Or.at_ (c8_at (by omega))
              have e1 : wr.cell? ⟨go, 4 * k + 1, none⟩ = some (.int .u8 (n8 (g8 ((out32 S).take (4 * k) ++ (z8 32).drop (4 * k)) (4 * k + 1)))) := Or.at_ (c8_at (by omega))
              have e2 : wr.cell? ⟨go, 4 * k + 2, none⟩ = some (.int .u8 (n8 (g8 ((out32 S).take (4 * k) ++ (z8 32).drop (4 * k)) (4 * k + 2)))) := Or.at_ (c8_at (by omega))
              have e3 : wr.cell? ⟨go, 4 * k + 3, none⟩ = some (.int .u8 (n8 (g8 ((out32 S).take (4 * k) ++ (z8 32).drop (4 * k)) (4 * k + 3)))) := Or.at_ (c8_at (by omega))
              have f0 := Or.frozen (4 * k)
              have f1 := Or.frozen (4 * k + 1)
              have f2 := Or.frozen (4 * k + 2)
              have f3 := Or.frozen (4 * k + 3)
              clear hlen hol
              go_wp2_with fail
              go_roundw
              case rel =>
                have hZ : (z8 32).length = 4 * S.length := by simp [hls]
                refine ⟨k + 1, by omega, by go_num, ?_, (((Rr.far (by simp; omega) _).far (by simp; omega) _).far (by simp; omega) _).far (by simp; omega) _, (((Br.setCell (by simp; omega) _).setCell (by simp; omega) _).setCell (by simp; omega) _).setCell (by simp; omega) _⟩
                have h1 := out32_set S (z8 32) hZ k 0 (by omega) (by omega) _ rfl
                have h2 := out32_set S (z8 32) hZ k 1 (by omega) (by omega) _ rfl
                have h3 := out32_set S (z8 32) hZ k 2 (by omega) (by omega) _ rfl
                have h4 := out32_set S (z8 32) hZ k 3 (by omega) (by omega) _ rfl
                have h5 := (((Or.set_ (4 * k) (.int .u8 (n8 (g32 S k >>> 24).toUInt8))).set_ (4 * k + 1) (.int .u8 (n8 (g32 S k >>> 16).toUInt8))).set_ (4 * k + 2) (.int .u8 (n8 (g32 S k >>> 8).toUInt8))).set_ (4 * k + 3) (.int .u8 (n8 (g32 S k).toUInt8))
                rw [c8_set, c8_set, c8_set, c8_set] at h5
                simp only [Nat.add_zero, Nat.zero_add] at h1 h2 h3 h4
                rw [h1, h2, h3, h4] at h5
                exact h5
              case measure => simp [intOf]; omega
            · obtain rfl : k = 8 := by omega
              have hO : Bk wr go 24 (c8 (out32 S)) := by
                have e : (out32 S).take (4 * 8) ++ (z8 32).drop (4 * 8) = out32 S := by
                  rw [List.take_of_length_le (by omega), List.drop_of_length_le (by simp), List.append_nil]
                rw [e] at Or; exact Or
              have ho32 : (out32 S).length = 32 := by omega
              have hrow : rowAt wr ⟨go, 0, none⟩ 32 = some (c8 (out32 S)) := by have := hO.rows; rwa [length_c8, ho32] at this
              have hcan : canAt wr ⟨w.heap.size, 0, none⟩ 32 = true := Rr.can (by simp)
              clear hlen hol Or hO
              go_wp2_with fail
              refine bodyPost_ret (results_row rfl _ _ _ _ _ _ rfl (Rr.puts (vs := c8 (out32 S)) (by simp [ho32])) Try.underlying24 rfl (by simp [info_h32, ho32])) rfl ⟨?_, below_putAt Br (Nat.le_refl _) _⟩
              rw [← HS.out]; rfl
end Go.Proofs.Ytlegpkdighoflaa
