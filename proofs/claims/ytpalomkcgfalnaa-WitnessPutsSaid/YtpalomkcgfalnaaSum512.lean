/- sha.Sum512 answers sum64 of its parts joined (parts of up to 2^40 bytes together), and leaves what was there as it was. -/
import Derived.Test.YtpalomkcgfalnaaMA
import Derived.Test.YtpalomkcgfalnaaMB
import Derived.WalkKit
import Derived.WalkLawsBesides
import Derived.Outline
import Derived.Lib.Hide
set_option linter.unusedVariables false
set_option linter.unusedSimpArgs false
namespace Go.Proofs.Ytpalomkcgfalnaa
open Go Go.RowKit Sh
/-- A word out of its first j bytes. -/
def wf (q : List UInt8) (k j : Nat) : UInt64 := ((q.drop (8 * k)).take j).foldl (fun m x => m <<< 8 ||| x.toUInt64) 0
theorem wf_step (q : List UInt8) (k j : Nat) (h : 8 * k + j < q.length) : wf q k (j + 1) = wf q k j <<< 8 ||| (g8 q (8 * k + j)).toUInt64 := by
  unfold wf g8
  rw [List.take_add_one, List.foldl_append, List.getElem?_drop, List.getElem?_eq_getElem h]
  simp [h]
set_option maxRecDepth 100000 in
set_option maxHeartbeats 4000000 in
theorem sum512_any (v : Value) (ls : List (List UInt8)) (w : World) (hp : Parts w w.heap.size v ls) (hsz : ls.flatten.length ≤ 1099511627776) :
    Calls Try.prog 18 #[v] w fun e w' => e = .returned (A8 (sum64 ls.flatten)) ∧ Below w.heap.size w w' := by
  have hsq : squares.length = 8 := by decide +kernel
  have hcu : cubes.length = 80 := by decide +kernel
  go_enter Try.func18, Try.ntmps18
  go_wp2_with fail
  refine (roots_any _).mono ?_; rintro e w1 ⟨rfl, hb1⟩
  have R1 : Bk w1 w.heap.size 27 (c8 (z8 64)) := (Bk.new w _ _).below hb1 (by simp)
  have B1 : Below w.heap.size w w1 := ((Below.refl _ _).alloc (Nat.le_refl _) _).trans (hb1.mono (by simp))
  have l1 := R1.lt
  clear hb1
  go_wp2_with fail
  generalize hgh : w1.heap.size = gh at *
  obtain ⟨wa, hwa⟩ : ∃ x, x = putAt (w1.alloc (Obj.cells (c64 (z64 8)).toArray 97)) ⟨gh, 0, none⟩ (c64 squares) := ⟨_, rfl⟩
  rw [← hwa]
  have Ha : Bk wa gh 97 (c64 squares) := by rw [hwa]; have := Bk.new w1 97 (c64 (z64 8)); rw [hgh] at this; exact this.puts (by simp [hsq])
  have Ra : Bk wa w.heap.size 27 (c8 (z8 64)) := by rw [hwa]; exact (R1.alloc _).putFar (by simp; omega) _
  have Ba : Below w.heap.size w wa := by rw [hwa]; exact below_putAt (B1.alloc (by omega) _) (by simp; omega) _
  clear hwa R1 B1
  refine (cubes_any _).mono ?_; rintro e w2 ⟨rfl, hb2⟩
  have R2 := Ra.below hb2 Ra.lt
  have H2 := Ha.below hb2 Ha.lt
  have B2 := Ba.trans (hb2.mono Ba.size)
  have l2 := H2.lt
  clear hb2 Ra Ha Ba hgh w1
  go_wp2_with fail
  obtain ⟨w3, hw3⟩ : ∃ x, x = (putAt (w2.alloc (Obj.cells (c64 (z64 80)).toArray 99)) ⟨w2.heap.size, 0, none⟩ (c64 cubes)).alloc (Obj.cells (c64 (z64 80)).toArray 99) := ⟨_, rfl⟩
  rw [← hw3]
  have K3 : Bk w3 w2.heap.size 99 (c64 cubes) := by rw [hw3]; exact ((Bk.new _ _ _).puts (by simp [hcu])).alloc _
  have M3 : Bk w3 (w2.heap.size + 1) 99 (c64 (z64 80)) := by rw [hw3]; simpa using Bk.new (putAt (w2.alloc (Obj.cells (c64 (z64 80)).toArray 99)) ⟨w2.heap.size, 0, none⟩ (c64 cubes)) 99 (c64 (z64 80))
  have R3 : Bk w3 w.heap.size 27 (c8 (z8 64)) := by rw [hw3]; exact ((R2.alloc _).putFar (by simp; omega) _).alloc _
  have H3 : Bk w3 gh 97 (c64 squares) := by rw [hw3]; exact ((H2.alloc _).putFar (by simp; omega) _).alloc _
  have B3 : Below w.heap.size w w3 := by rw [hw3]; exact (below_putAt (B2.alloc B2.size _) (by exact B2.size) _).alloc (by simp; have := B2.size; omega) _
  have P3 : Parts w3 w3.heap.size v ls := (hp.below B3).more B3.size
  generalize hgk : w2.heap.size = gk at *
  clear hw3 R2 H2 B2 hcu
  refine (padded_any 128 (.inr rfl) v ls w3 P3 hsz).mono ?_
  rintro e w4 ⟨u, rfl, hu, hb4⟩
  have K4 := K3.below hb4 K3.lt
  have M4 := M3.below hb4 M3.lt
  have R4 := R3.below hb4 R3.lt
  have H4 := H3.below hb4 H3.lt
  have B4 := B3.trans (hb4.mono B3.size)
  have l4 := hb4.size
  have m3 := M3.lt
  generalize hpd : pad 128 ls.flatten = p at *
  clear hb4 K3 M3 R3 H3 B3 P3 hp
  have Hp := Lib.hid hpd
  have hmod : p.length % 128 = 0 := by rw [← hpd]; exact (pad_mod _).2
  clear hpd hgk w2
  go_wp2_with fail
  go_loopw [6] (fun b wr => ∃ i : Nat, 128 * i ≤ p.length ∧ By w4 w3.heap.size w4.heap.size b (p.drop (128 * i)) ∧ Bk wr w.heap.size 27 (c8 (z8 64)) ∧ Bk wr gh 97 (c64 (state64 p i)) ∧ Bk wr gk 99 (c64 cubes) ∧ (∃ M, M.length = 80 ∧ Bk wr (gk + 1) 99 (c64 M)) ∧ Below w.heap.size w wr ∧ w4.heap.size ≤ wr.heap.size ∧ Mid w3.heap.size w4.heap.size w4 wr) (fun b _ => lenV b)
  case atStart => exact ⟨0, by omega, by simpa using hu, R4, H4, K4, ⟨_, by simp, M4⟩, B4, Nat.le_refl _, Mid.refl _ _ _⟩
  case round =>
    obtain ⟨i, hi, hb, Rr, Hr, Kr, ⟨M, hM, Mr⟩, Br, lr, Dr⟩ := hrel
    clear hu R4 H4 K4 M4 B4
    obtain ⟨A, c, rfl, hc, hcm, hrd⟩ := hb.open_
    generalize hq : p.drop (128 * i) = q at *
    have hql : q.length = p.length - 128 * i := by rw [← hq]; simp
    have hqm : q.length % 128 = 0 := by omega
    have Hq := Lib.hid hq
    have Hql := Lib.hid hql
    clear hq hql hb hmod
    by_cases hgo : 0 < q.length
    · obtain ⟨g, o, rfl, hgl, hg, hcell⟩ := hrd.some (by simpa using hgo)
      have hq64 : 128 ≤ q.length := by omega
      clear hqm
      go_wp2_with fail
      obtain ⟨wo, rfl⟩ : ∃ wo : World, wo = wr := ⟨_, rfl⟩
      go_loopw [33] (fun t wr => ∃ k : Nat, k ≤ 16 ∧ t = .int .i64 k ∧ Bk wr w.heap.size 27 (c8 (z8 64)) ∧ Bk wr gh 97 (c64 (state64 p i)) ∧ Bk wr gk 99 (c64 cubes) ∧ (∃ M, M.length = 80 ∧ M.take k = W64 q k ∧ Bk wr (gk + 1) 99 (c64 M)) ∧ Below w.heap.size w wr ∧ w4.heap.size ≤ wr.heap.size ∧ Mid w3.heap.size w4.heap.size w4 wr) (fun t _ => 16 - (intOf t).toNat)
      case atStart => exact ⟨0, by omega, rfl, Rr, Hr, Kr, ⟨M, hM, rfl, Mr⟩, Br, lr, Dr⟩
      case round =>
        clear Rr Hr Kr Mr Br lr Dr hM M
        obtain ⟨k, hk, rfl, Rr, Hr, Kr, ⟨M, hM, hMW, Mr⟩, Br, lr, Dr⟩ := hrel
        have HW := Lib.hid hMW
        clear hMW
        by_cases hlt : k < 16
        · have em : wr.cell? ⟨gk + 1, k, none⟩ = some (.int .u64 (n64 (g64 M k))) := Mr.at_ (c64_at (by omega))
          have ef := Mr.frozen k
          have hcne : ¬ c = 8 * k := by omega
          go_wp2_with fail
          obtain ⟨wz, hwz⟩ : ∃ x, x = wr.setCell ⟨gk + 1, k, none⟩ (.int .u64 0) := ⟨_, rfl⟩
          rw [← hwz]
          have Mz : Bk wz (gk + 1) 99 (c64 (M.set k (wf q k 0))) := by rw [hwz, ← c64_set]; exact Mr.set_ k _
          have Rz : Bk wz w.heap.size 27 (c8 (z8 64)) := by rw [hwz]; exact Rr.far (by simp; omega) _
          have Hz : Bk wz gh 97 (c64 (state64 p i)) := by rw [hwz]; exact Hr.far (by simp; omega) _
          have Kz : Bk wz gk 99 (c64 cubes) := by rw [hwz]; exact Kr.far (by simp) _
          have Bz : Below w.heap.size w wz := by rw [hwz]; exact Br.setCell (by simp; omega) _
          have lz : w4.heap.size ≤ wz.heap.size := by rw [hwz]; simpa using lr
          have Dz : Mid w3.heap.size w4.heap.size w4 wz := by rw [hwz]; exact Dr.setCell (by simp; omega) _
          clear hwz Rr Hr Kr Mr Br lr Dr em ef wr
          go_loopw [46] (fun t wr => ∃ j : Nat, j ≤ 8 ∧ t = .int .i64 j ∧ Bk wr w.heap.size 27 (c8 (z8 64)) ∧ Bk wr gh 97 (c64 (state64 p i)) ∧ Bk wr gk 99 (c64 cubes) ∧ Bk wr (gk + 1) 99 (c64 (M.set k (wf q k j))) ∧ Below w.heap.size w wr ∧ w4.heap.size ≤ wr.heap.size ∧ Mid w3.heap.size w4.heap.size w4 wr) (fun t _ => 8 - (intOf t).toNat)
          case atStart => exact ⟨0, by omega, rfl, Rz, Hz, Kz, Mz, Bz, lz, Dz⟩
          case round =>
            clear Rz Hz Kz Mz Bz lz Dz wz
            obtain ⟨j, hj, rfl, Rr, Hr, Kr, Mr, Br, lr, Dr⟩ := hrel
            by_cases hlj : j < 8
            · have e0 : wr.cell? ⟨g, o + 8 * k + j, none⟩ = some (.int .u8 (n8 (g8 q (8 * k + j)))) := by
                have := (Dr.cell (p := ⟨g, o + (8 * k + j), none⟩) hgl hg).trans (cell8 hcell (by omega))
                rwa [← Nat.add_assoc] at this
              have em : wr.cell? ⟨gk + 1, k, none⟩ = some (.int .u64 (n64 (wf q k j))) := by
                have := Mr.at_ (c64_at (i := k) (by simp; omega))
                simpa [g64, show k < M.length by omega] using this
              have ef := Mr.frozen k
              clear hcell
              go_wp2_with fail
              go_roundw
              case rel =>
                refine ⟨j + 1, by omega, by go_num, Rr.far (by simp; omega) _, Hr.far (by simp; omega) _, Kr.far (by simp) _, ?_, Br.setCell (by simp; omega) _, by simpa using lr, Dr.setCell (by simp; omega) _⟩
                have h1 := Mr.set_ k (.int .u64 (n64 (wf q k j <<< 8 ||| (g8 q (8 * k + j)).toUInt64)))
                rw [c64_set, List.set_set, ← wf_step q k j (by omega)] at h1
                exact wf_step q k j (by omega) ▸ h1
              case measure => simp [intOf]; omega
            · obtain rfl : j = 8 := by omega
              go_wp2_with fail
              go_roundw
              case rel => exact ⟨k + 1, by omega, by go_num, Rr, Hr, Kr, ⟨M.set k (word64 q k), by simp [hM], W64_lo q M k (by omega) hlt HW.out, Mr⟩, Br, lr, Dr⟩
              case measure => simp [intOf]; omega
        · obtain rfl : k = 16 := by omega
          go_wp2_with fail
          obtain ⟨wo, rfl⟩ : ∃ wo : World, wo = wr := ⟨_, rfl⟩
          go_loopw [10] (fun t wr => ∃ k : Nat, 16 ≤ k ∧ k ≤ 80 ∧ t = .int .i64 k ∧ Bk wr w.heap.size 27 (c8 (z8 64)) ∧ Bk wr gh 97 (c64 (state64 p i)) ∧ Bk wr gk 99 (c64 cubes) ∧ (∃ M, M.length = 80 ∧ M.take k = W64 q k ∧ Bk wr (gk + 1) 99 (c64 M)) ∧ Below w.heap.size w wr ∧ w4.heap.size ≤ wr.heap.size ∧ Mid w3.heap.size w4.heap.size w4 wr) (fun t _ => 80 - (intOf t).toNat)
          case atStart => exact ⟨16, by omega, by omega, rfl, Rr, Hr, Kr, ⟨M, hM, HW.out, Mr⟩, Br, lr, Dr⟩
          case round =>
            clear Rr Hr Kr Mr Br lr Dr hM HW M hcell
            obtain ⟨k, hk16, hk, rfl, Rr, Hr, Kr, ⟨M, hM, hMW, Mr⟩, Br, lr, Dr⟩ := hrel
            have HW := Lib.hid hMW
            clear hMW
            by_cases hlt : k < 80
            · have e0 : wr.cell? ⟨gk + 1, k - 15, none⟩ = some (.int .u64 (n64 (g64 M (k - 15)))) := Mr.at_ (c64_at (by omega))
              have e1 : wr.cell? ⟨gk + 1, k - 2, none⟩ = some (.int .u64 (n64 (g64 M (k - 2)))) := Mr.at_ (c64_at (by omega))
              have e2 : wr.cell? ⟨gk + 1, k - 7, none⟩ = some (.int .u64 (n64 (g64 M (k - 7)))) := Mr.at_ (c64_at (by omega))
              have e3 : wr.cell? ⟨gk + 1, k - 16, none⟩ = some (.int .u64 (n64 (g64 M (k - 16)))) := Mr.at_ (c64_at (by omega))
              have em : wr.cell? ⟨gk + 1, k, none⟩ = some (.int .u64 (n64 (g64 M k))) := Mr.at_ (c64_at (by omega))
              have ef := Mr.frozen k
              go_wp2_with fail
              go_quiet (fail)
              go_wp2_with fail
              refine wp_quiet_tail 29 (by kernel_rfl) (by kernel_rfl) ?_
              simp only [List.take_succ_cons, List.take_zero, List.drop_succ_cons, List.drop_zero]
              repeat (go_big_quiet_step ((go_at_call 52; first | exact quiet_same (rot64 _ _ (by omega)) | exact quiet_same2 (rot64 _ _ (by omega)))))
              refine wpQuiet_nil ?_
              rintro w' ⟨nq2, rfl⟩
              go_wp2_with fail
              go_roundw
              case rel =>
                refine ⟨k + 1, by omega, by omega, by go_num, (Rr.drewN _).far (by simp; omega) _, (Hr.drewN _).far (by simp; omega) _, (Kr.drewN _).far (by simp) _, ⟨M.set k (next64 (g64 M (k - 2)) (g64 M (k - 7)) (g64 M (k - 15)) (g64 M (k - 16))), by simp [hM], W64_hi q M k (by omega) hk16 HW.out, ?_⟩, (below_drewN Br _).setCell (by simp; omega) _, by simpa using lr, (Dr.drewN _).setCell (by simp; omega) _⟩
                rw [← c64_set]
                exact (Mr.drewN (nq + nq2)).set_ k _
              case measure => simp [intOf]; omega
            · obtain rfl : k = 80 := by omega
              have hls := length_state64 p i
              have hrow : rowAt wr ⟨gh, 0, none⟩ 8 = some (c64 (state64 p i)) := by have := Hr.rows; rwa [length_c64, hls] at this
              obtain ⟨X, hX⟩ : ∃ X, X = W64 q 80 := ⟨_, rfl⟩
              have hMe := W64_all q M HW.out hM
              rw [hMe, ← hX] at Mr
              have hXl : X.length = 80 := by rw [hX]; exact length_W64 q 80
              have HX := Lib.hid hX
              clear hX hMe
              have hgv := Hr.lt
              have hgv3 := lr
              go_wp2_with fail
              generalize hgv' : wr.heap.size = gv at *
              obtain ⟨wv, hwv⟩ : ∃ x, x = putAt (wr.alloc (Obj.cells (c64 (z64 8)).toArray 97)) ⟨gv, 0, none⟩ (c64 (state64 p i)) := ⟨_, rfl⟩
              rw [← hwv]
              have V0 : Bk wv gv 97 (c64 (state64 p i)) := by rw [hwv]; have := Bk.new wr 97 (c64 (z64 8)); rw [hgv'] at this; exact this.puts (by simp [hls])
              have R0 : Bk wv w.heap.size 27 (c8 (z8 64)) := by rw [hwv]; exact (Rr.alloc _).putFar (by simp; omega) _
              have H0 : Bk wv gh 97 (c64 (state64 p i)) := by rw [hwv]; exact (Hr.alloc _).putFar (by simp; omega) _
              have K0 : Bk wv gk 99 (c64 cubes) := by rw [hwv]; exact (Kr.alloc _).putFar (by simp; omega) _
              have M0 : Bk wv (gk + 1) 99 (c64 X) := by rw [hwv]; exact (Mr.alloc _).putFar (by simp; omega) _
              have B0 : Below w.heap.size w wv := by rw [hwv]; exact below_putAt (Br.alloc Br.size _) (by simp; omega) _
              have L0 : w4.heap.size ≤ wv.heap.size := by rw [hwv]; simp; omega
              have D0 : Mid w3.heap.size w4.heap.size w4 wv := by rw [hwv]; exact (Dr.alloc (by omega) _).putAt (by simp; omega) _
              clear hwv hrow Rr Hr Kr Mr Br Dr HW hM hgv' lr wr
              go_loopw [103] (fun t wr => ∃ k : Nat, k ≤ 80 ∧ t = .int .i64 k ∧ Bk wr w.heap.size 27 (c8 (z8 64)) ∧ Bk wr gh 97 (c64 (state64 p i)) ∧ Bk wr gk 99 (c64 cubes) ∧ Bk wr (gk + 1) 99 (c64 X) ∧ Bk wr gv 97 (c64 (turns64 (state64 p i) X k)) ∧ Below w.heap.size w wr ∧ w4.heap.size ≤ wr.heap.size ∧ Mid w3.heap.size w4.heap.size w4 wr) (fun t _ => 80 - (intOf t).toNat)
              case atStart => exact ⟨0, by omega, rfl, R0, H0, K0, M0, V0, B0, L0, D0⟩
              case round =>
                clear R0 H0 K0 M0 V0 B0 L0 D0 wv
                obtain ⟨k, hk, rfl, Rr, Hr, Kr, Mr, Vr, Br, lr, Dr⟩ := hrel
                have hv8 := length_turns64 (state64 p i) X hls k
                have hstep : turns64 (state64 p i) X (k + 1) = round64 (turns64 (state64 p i) X k) (K64 k) (g64 X k) := rfl
                have Hst := Lib.hid hstep
                clear hstep
                generalize hV : turns64 (state64 p i) X k = V at *
                have HV := Lib.hid hV
                clear hV
                by_cases hlt : k < 80
                · have v0 : wr.cell? ⟨gv, 0, none⟩ = some (.int .u64 (n64 (g64 V 0))) := Vr.at_ (c64_at (by omega))
                  have v1 : wr.cell? ⟨gv, 1, none⟩ = some (.int .u64 (n64 (g64 V 1))) := Vr.at_ (c64_at (by omega))
                  have v2 : wr.cell? ⟨gv, 2, none⟩ = some (.int .u64 (n64 (g64 V 2))) := Vr.at_ (c64_at (by omega))
                  have v3 : wr.cell? ⟨gv, 3, none⟩ = some (.int .u64 (n64 (g64 V 3))) := Vr.at_ (c64_at (by omega))
                  have v4 : wr.cell? ⟨gv, 4, none⟩ = some (.int .u64 (n64 (g64 V 4))) := Vr.at_ (c64_at (by omega))
                  have v5 : wr.cell? ⟨gv, 5, none⟩ = some (.int .u64 (n64 (g64 V 5))) := Vr.at_ (c64_at (by omega))
                  have v6 : wr.cell? ⟨gv, 6, none⟩ = some (.int .u64 (n64 (g64 V 6))) := Vr.at_ (c64_at (by omega))
                  have v7 : wr.cell? ⟨gv, 7, none⟩ = some (.int .u64 (n64 (g64 V 7))) := Vr.at_ (c64_at (by omega))
                  have ek : wr.cell? ⟨gk, k, none⟩ = some (.int .u64 (n64 (g64 cubes k))) := Kr.at_ (c64_at (by simp [cubes]; omega))
                  have em : wr.cell? ⟨gk + 1, k, none⟩ = some (.int .u64 (n64 (g64 X k))) := Mr.at_ (c64_at (by omega))
                  have hcan : canAt wr ⟨gv, 0, none⟩ 8 = true := Vr.can (by simp [hv8])
                  go_wp2_with fail
                  go_quiet (fail)
                  go_wp2_with fail
                  go_quiet ((go_at_call 52; first | exact quiet_same (rot64 _ _ (by omega)) | exact quiet_same2 (rot64 _ _ (by omega))))
                  go_wp2_with fail
                  go_quiet ((go_at_call 52; first | exact quiet_same (rot64 _ _ (by omega)) | exact quiet_same2 (rot64 _ _ (by omega))))
                  go_wp2_with fail
                  go_roundw
                  case rel =>
                    refine ⟨k + 1, by omega, by go_num, (Rr.drewN _).putFar (by simp; omega) _, (Hr.drewN _).putFar (by simp; omega) _, (Kr.drewN _).putFar (by simp; omega) _, (Mr.drewN _).putFar (by simp; omega) _, ?_, below_putAt (below_drewN Br _) (by simp; omega) _, by simpa using lr, (Dr.drewN _).putAt (by simp; omega) _⟩
                    rw [Hst.out]
                    exact (Vr.drewN _).puts (by simp [hv8])
                  case measure => simp [intOf]; omega
                · obtain rfl : k = 80 := by omega
                  go_wp2_with fail
                  obtain ⟨wo, rfl⟩ : ∃ wo : World, wo = wr := ⟨_, rfl⟩
                  go_loopw [185] (fun t wr => ∃ k : Nat, k ≤ 8 ∧ t = .int .i64 k ∧ Bk wr w.heap.size 27 (c8 (z8 64)) ∧ Bk wr gh 97 (c64 ((Sh.add64 (state64 p i) V).take k ++ (state64 p i).drop k)) ∧ Bk wr gk 99 (c64 cubes) ∧ Bk wr (gk + 1) 99 (c64 X) ∧ Bk wr gv 97 (c64 V) ∧ Below w.heap.size w wr ∧ w4.heap.size ≤ wr.heap.size ∧ Mid w3.heap.size w4.heap.size w4 wr) (fun t _ => 8 - (intOf t).toNat)
                  case atStart => exact ⟨0, by omega, rfl, Rr, by simpa using Hr, Kr, Mr, Vr, Br, lr, Dr⟩
                  case round =>
                    clear Rr Hr Kr Mr Vr Br lr Dr wo
                    obtain ⟨k, hk, rfl, Rr, Hr, Kr, Mr, Vr, Br, lr, Dr⟩ := hrel
                    have hal : (Sh.add64 (state64 p i) V).length = 8 := by simp [Sh.add64, hls, hv8]
                    by_cases hlt : k < 8
                    · have eh : wr.cell? ⟨gh, k, none⟩ = some (.int .u64 (n64 (g64 (state64 p i) k))) := by
                        have := Hr.at_ (c64_at (i := k) (by simp [hal, hls]; omega))
                        rwa [g64_join _ _ _ (by omega)] at this
                      have ev : wr.cell? ⟨gv, k, none⟩ = some (.int .u64 (n64 (g64 V k))) := Vr.at_ (c64_at (by omega))
                      have ef := Hr.frozen k
                      go_wp2_with fail
                      refine wp_quiet_tail 8 (by kernel_rfl) (by kernel_rfl) ?_
                      simp only [List.take_succ_cons, List.take_zero, List.drop_succ_cons, List.drop_zero]
                      repeat (go_big_quiet_step (fail))
                      refine wpQuiet_nil ?_
                      rintro w' ⟨nq, rfl⟩
                      go_wp2_with fail
                      go_roundw
                      case rel =>
                        refine ⟨k + 1, by omega, by go_num, (Rr.drewN nq).far (by simp; omega) _, ?_, (Kr.drewN nq).far (by simp; omega) _, (Mr.drewN nq).far (by simp; omega) _, (Vr.drewN nq).far (by simp; omega) _, (below_drewN Br nq).setCell (by simp; omega) _, by simpa using lr, (Dr.drewN nq).setCell (by simp; omega) _⟩
                        rw [← add64_step _ _ hls hv8 k hlt, ← c64_set]
                        exact (Hr.drewN nq).set_ k _
                      case measure => simp [intOf]; omega
                    · obtain rfl : k = 8 := by omega
                      have hnew : Bk wr gh 97 (c64 (state64 p (i + 1))) := by
                        have e : state64 p (i + 1) = (Sh.add64 (state64 p i) V).take 8 ++ (state64 p i).drop 8 := by
                          rw [List.take_of_length_le (by omega), List.drop_of_length_le (by omega), List.append_nil]
                          show block64 (state64 p i) (p.drop (128 * i)) = _
                          unfold block64
                          rw [Hq.out, ← HX.out, HV.out]
                        rw [e]; exact Hr
                      clear Hr
                      go_wp2_with fail
                      go_roundw
                      case rel =>
                        have hpl : 128 * (i + 1) ≤ p.length := by have := Hql.out; omega
                        refine ⟨i + 1, hpl, ?_, Rr, hnew, Kr, ⟨X, hXl, Mr⟩, Br, lr, Dr⟩
                        have e : p.drop (128 * (i + 1)) = q.drop 128 := by rw [← Hq.out, List.drop_drop]; congr 1
                        rw [e]
                        have h1 := hrd.cut (k := 128) (cap := c) (by simpa using hc)
                        have h2 : (if c = 128 then some (⟨g, o, none⟩ : Addr) else (some (⟨g, o, none⟩ : Addr)).map (·.add 128)) = (if c = 128 then some ⟨g, o, none⟩ else some ⟨g, o + 128, none⟩) := by simp [addr_lit]
                        rw [h2] at h1
                        have h3 : q.length - 128 = (q.drop 128).length := by simp
                        rw [h3]
                        exact By.mk_ (by simp; omega) (by simp [maxLen]; omega) (by rw [List.map_drop]; exact h1)
                      case measure => simp [lenV]; omega
    · have hq0 : q.length = 0 := by omega
      have hpi : 128 * i = p.length := by have := Hql.out; omega
      have hls := length_state64 p i
      have hrow : rowAt wr ⟨gh, 0, none⟩ 8 = some (c64 (state64 p i)) := by have := Hr.rows; rwa [length_c64, hls] at this
      have hlh := Hr.lt
      have hst : out64 (state64 p i) = sum64 ls.flatten := by
        unfold sum64
        rw [Hp.out, ← hpi, Nat.mul_div_cancel_left _ (by decide)]
      have HS := Lib.hid hst
      generalize state64 p i = S at *
      clear hst hrd hpi Dr Kr Mr
      go_wp2_with fail
      obtain ⟨wv, hwv⟩ : ∃ x, x = wr.alloc (Obj.cells (c8 (z8 64)).toArray 27) := ⟨_, rfl⟩
      rw [← hwv]
      generalize hgo' : wr.heap.size = go at *
      have O0 : Bk wv go 27 (c8 (z8 64)) := by rw [hwv, ← hgo']; exact Bk.new _ _ _
      have R0 : Bk wv w.heap.size 27 (c8 (z8 64)) := by rw [hwv]; exact Rr.alloc _
      have B0 : Below w.heap.size w wv := by rw [hwv]; exact Br.alloc (by omega) _
      clear hwv hrow Rr Hr Br hgo' lr
      have hol := length_out64 S
      have hZ : (z8 64).length = 8 * S.length := by simp [hls]
      have HZ := Lib.hid hZ
      have Hol := Lib.hid hol
      clear hZ hol
      go_loopw [198] (fun t wr => ∃ k : Nat, k ≤ 8 ∧ t = .int .i64 k ∧ Bk wr go 27 (c8 ((out64 S).take (8 * k + 0) ++ (z8 64).drop (8 * k + 0))) ∧ Bk wr w.heap.size 27 (c8 (z8 64)) ∧ Below w.heap.size w wr) (fun t _ => 8 - (intOf t).toNat)
      case atStart => exact ⟨0, by omega, rfl, by simpa using O0, R0, B0⟩
      case round =>
        clear O0 R0 B0
        obtain ⟨k, hk, rfl, Or, Rr, Br⟩ := hrel
        by_cases hlt : k < 8
        · go_wp2_with fail
          obtain ⟨wo, rfl⟩ : ∃ wo : World, wo = wr := ⟨_, rfl⟩
          go_loopw [202] (fun t wr => ∃ j : Nat, j ≤ 8 ∧ t = .int .i64 j ∧ Bk wr go 27 (c8 ((out64 S).take (8 * k + j) ++ (z8 64).drop (8 * k + j))) ∧ Bk wr w.heap.size 27 (c8 (z8 64)) ∧ Below w.heap.size w wr) (fun t _ => 8 - (intOf t).toNat)
          case atStart => exact ⟨0, by omega, rfl, Or, Rr, Br⟩
          case round =>
            clear Or Rr Br wo
            obtain ⟨j, hj, rfl, Or, Rr, Br⟩ := hrel
            by_cases hlj : j < 8
            · have hlen : 8 * k + j < ((out64 S).take (8 * k + j) ++ (z8 64).drop (8 * k + j)).length := by simp [Hol.out, hls]; omega
              have e0 : wr.cell? ⟨go, 8 * k + j, none⟩ = some (.int .u8 (n8 (g8 ((out64 S).take (8 * k + j) ++ (z8 64).drop (8 * k + j)) (8 * k + j)))) := Or.at_ (c8_at hlen)
              have f0 := Or.frozen (8 * k + j)
              have key : ∀ x : UInt8, (bytes64 (g64 S k))[j]? = some x → Bk (wr.setCell ⟨go, 8 * k + j, none⟩ (.int .u8 (n8 x))) go 27 (c8 ((out64 S).take (8 * k + (j + 1)) ++ (z8 64).drop (8 * k + (j + 1)))) := fun x hx => by
                rw [← out64_set S (z8 64) HZ.out k j (by omega) hlj x hx, ← c8_set]
                exact Or.set_ _ _
              clear hlen
              have hj8 : j = 0 ∨ j = 1 ∨ j = 2 ∨ j = 3 ∨ j = 4 ∨ j = 5 ∨ j = 6 ∨ j = 7 := by omega
              have Hkey := Lib.hid key
              clear key
              rcases hj8 with rfl | rfl | rfl | rfl | rfl | rfl | rfl | rfl
              all_goals
                try simp only [Nat.add_zero] at e0 f0
                go_wp2_with fail
                go_roundw
                case rel => exact ⟨_, by omega, by go_num, Hkey.out _ (by simp [bytes64, be64]), Rr.far (by simp; omega) _, Br.setCell (by simp; omega) _⟩
                case measure => simp [intOf]
            · obtain rfl : j = 8 := by omega
              go_wp2_with fail
              go_roundw
              case rel => exact ⟨k + 1, by omega, by go_num, Or, Rr, Br⟩
              case measure => simp [intOf]; omega
        · obtain rfl : k = 8 := by omega
          have ho64 : (out64 S).length = 64 := by rw [Hol.out, hls]
          have hO : Bk wr go 27 (c8 (out64 S)) := by
            have e : (out64 S).take (8 * 8 + 0) ++ (z8 64).drop (8 * 8 + 0) = out64 S := by
              rw [List.take_of_length_le (by omega), List.drop_of_length_le (by simp), List.append_nil]
            rw [e] at Or; exact Or
          have hrow : rowAt wr ⟨go, 0, none⟩ 64 = some (c8 (out64 S)) := by have := hO.rows; rwa [length_c8, ho64] at this
          have hcan : canAt wr ⟨w.heap.size, 0, none⟩ 64 = true := Rr.can (by simp)
          clear Or hO
          go_wp2_with fail
          refine bodyPost_ret (results_row rfl _ _ _ _ _ _ rfl (Rr.puts (vs := c8 (out64 S)) (by simp [ho64])) Try.underlying27 rfl (by simp [info_h64, ho64])) rfl ⟨?_, below_putAt Br (Nat.le_refl _) _⟩
          rw [← HS.out]; rfl
end Go.Proofs.Ytpalomkcgfalnaa
