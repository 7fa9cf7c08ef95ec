/- The loops of the reference's Digest at 32 bits a word. Printed by gen_dig.py. · The reference's Sum. -/
import Derived.Test.YtlegpkdighoflaaMD
import Derived.Test.YtlegpkdighoflaaDg32b
import Derived.Test.YtlegpkdighoflaaDg32o
import Derived.Test.YtlegpkdighoflaaMC
import Derived.Outline
set_option linter.unusedVariables false
set_option linter.unusedSimpArgs false
namespace Go.Proofs.Ytlegpkdighoflaa
open Go Go.RowKit Sh
set_option maxRecDepth 1000000 in
set_option maxHeartbeats 40000000 in
theorem digest32 (v : Value) (l : List UInt8) (w : World) (hb : By w 0 w.heap.size v l) (hsz : l.length ≤ 1099511627776) :
    Calls Try.prog 34 #[v, .int .u64 32] w fun e w' => ∃ u, e = .returned u ∧ Own8 w' w.heap.size u (sum32 l) ∧ Below w.heap.size w w' := by
  have hn := hsz
  have hw : IntKind.u64.wrap (l.length : Int) = n64 (UInt64.ofNat l.length) := by
    rw [wrapN64]; unfold n64; simp
  have hpad : pz l (zeros 64 l.length) ++ fl 8 (UInt64.ofNat l.length * 8) 0 = pad 64 l := by
    have e : fl 8 (UInt64.ofNat l.length * 8) 0 = be64 (8 * UInt64.ofNat l.length) := by rw [UInt64.mul_comm]; exact lb_eight _
    rw [e]; simp [pad, pz]
  have Hpad := Lib.hid hpad
  have Hsz := Lib.hid hsz
  clear hpad hsz
  obtain ⟨A0, c0, rfl, hc0, hcm0, -⟩ := id hb.open_
  generalize hml : l.length = n at *
  have Hml := Lib.hid hml
  clear hml
  have tok1 : True := trivial
  have tok2 : True := trivial
  go_enter Try.func34, Try.ntmps34
  have N1 : Bk (w.alloc (Obj.cells ns32.toArray 84)) w.heap.size 84 ns32 := by exact Bk.new _ _ _
  have B1 : Below w.heap.size w (w.alloc (Obj.cells ns32.toArray 84)) := (Below.refl _ _).alloc (Nat.le_refl _) _
  have b1 := (hb.below B1).more B1.size
  have E1 : Own8 ((w.alloc (Obj.cells ns32.toArray 84)).alloc (.cells #[] 5)) (w.heap.size + 1) (.slice (some ⟨w.heap.size + 1, 0, none⟩) 0 0) [] := by simpa using Own8.empty (w.alloc (Obj.cells ns32.toArray 84)) (w.heap.size + 1) (by simp)
  go_wp2_with (first | (refine wpList_buildSlice rfl _ 84 _ _ rfl Try.underlying102 1 _ infoUint (by decide) (by decide) ns32.toArray (by kernel_rfl) ?_) | (at_builtin; refine app8_one _ (w.heap.size + 1) _ ([] ++ l) rfl _ _ rfl rfl ho1 128 128 rfl rfl (by simp [Hml.out]; omega) z1 ?_; intro A2 c2 w3 hc2 hcm2 ho2 hB2) | (at_builtin; refine app8 _ (w.heap.size + 1) _ [] rfl _ _ rfl rfl E1 _ rfl l 0 _ (b1.alloc (Nat.le_refl _) _) (by simp [Hml.out]; omega) (by simp) ?_; intro A1 c1 w2 hc1 hcm1 ho1 hB1 hg1 hat1; clear hg1 hat1; have z1 : w.heap.size + 1 ≤ w2.heap.size := by (have := hB1.size; simp at this; omega)))
  have B3 : Below w.heap.size w w3 := ((B1.alloc (by simp) _).trans (hB1.mono (by omega))).trans (hB2.mono (by omega))
  have N3 : Bk w3 w.heap.size 84 ns32 := ((N1.alloc _).below hB1 (by omega)).below hB2 (by omega)
  have z3 := hB2.size
  rw [List.nil_append, ← pz_zero] at hc2 ho2
  clear b1 E1 hb hc1 hcm1 ho1 hB1 hB2 N1 B1 hc0 hcm0
  generalize hz : zeros 64 n = z at *
  have hz1 : z = (64 - (n + 1 + 8) % 64) % 64 := by rw [← hz]; rfl
  have Hz1 := Lib.hid hz1
  have hzl : z < 64 := by omega
  clear hz hz1
  have hlz := length_pz l 0
  rw [Hml.out] at hlz
  rw [hlz] at hc2 ho2
  have zb : w.heap.size + 1 ≤ w3.heap.size := by omega
  go_loopw [8] (fun b wr => ∃ (j : Nat) (A : Option Addr) (c : Nat), j ≤ z ∧ b = .slice A (n + 1 + j) c ∧ n + 1 + j ≤ c ∧ c ≤ 9223372036854775807 ∧ Own8 wr (w.heap.size + 1) (.slice A (n + 1 + j) c) (pz l j) ∧ Below w.heap.size w wr ∧ Bk wr w.heap.size 84 ns32 ∧ w.heap.size + 1 ≤ wr.heap.size) (fun b _ => n + 1 + z - lenV b)
  case atStart => exact ⟨0, A2, c2, Nat.zero_le _, by simp [Hml.out], hc2, hcm2, ho2, B3, N3, zb⟩
  case round =>
    clear ho2 hc2 hcm2 B3 N3 z3 z1 zb
    obtain ⟨j, A, c, hj, rfl, hc1, hc2, ho, hb, hN, zr⟩ := hrel
    by_cases hlt : j < z
    · have hne : ((n : Int) + 1 + j + 8) % 64 ≠ 0 := by have := Hz1.out; omega
      go_wp2_with (at_builtin; refine app8_one _ (w.heap.size + 1) _ (pz l j) rfl _ _ rfl rfl ho 0 0 rfl rfl (by rw [length_pz, Hml.out]; omega) zr ?_; intro A2 c2 w2 hd1 hd2 ho2 hb2)
      have he : (pz l j ++ [0]).length = n + 1 + (j + 1) := by rw [← pz_step, length_pz, Hml.out]
      rw [he] at hd1 ho2
      rw [← pz_step] at ho2
      go_roundw
      case rel => exact ⟨j + 1, A2, c2, by omega, by rw [show (pz l j).length + 1 = n + 1 + (j + 1) from by rw [length_pz, Hml.out]; omega], hd1, hd2, ho2, hb.trans (hb2.mono (by omega)), hN.below hb2 (by omega), by have := hb2.size; omega⟩
      case measure => simp [lenV, length_pz, Hml.out]; omega
    · obtain rfl : j = z := by omega
      have hne : ((n : Int) + 1 + j + 8) % 64 = 0 := by have := Hz1.out; omega
      go_wp2_with (refine wpList_make8 rfl _ _ rfl 8 _ _ rfl rfl (by decide) ?_)
      obtain ⟨wv, hwv⟩ : ∃ x, x = wr.alloc (Obj.cells (c8 (z8 8)).toArray 5) := ⟨_, rfl⟩
      rw [← hwv]
      have hfar : (Value.slice A (n + 1 + j) c).ownBlock ≠ some wr.heap.size := by
        intro e
        have := (ho.lt _ e).2
        omega
      have zv : wr.heap.size < wv.heap.size := by rw [hwv]; simp
      have ov : Own8 wv (w.heap.size + 1) (.slice A (n + 1 + j) c) (pz l j) := by rw [hwv]; exact ho.alloc _
      have Bv : Below w.heap.size w wv := by rw [hwv]; exact hb.alloc (by omega) _
      have Nv : Bk wv w.heap.size 84 ns32 := by rw [hwv]; exact hN.alloc _
      have Lv : Bk wv wr.heap.size 5 (c8 (fl 8 (UInt64.ofNat n * 8) 8)) := by rw [hwv, fl_full]; exact Bk.new _ _ _
      generalize wr.heap.size = gl at *
      generalize UInt64.ofNat n * 8 = N at *
      clear hwv ho hb hN hne hlt
      go_wp2_with fail
      go_loopw [10, 11] (fun t i wr => ∃ r : Nat, r ≤ 8 ∧ i = .int .i64 ((r : Int) - 1) ∧ t = .int .u64 (n64 (sd N (8 - r))) ∧ Bk wr gl 5 (c8 (fl 8 N r)) ∧ wv.grownBy wr (some gl) ∧ Below w.heap.size w wr) (fun t i _ => (intOf i + 1).toNat)
      case atStart => exact ⟨8, by omega, rfl, rfl, Lv, World.grownBy.refl _ _, Bv⟩
      case round =>
        clear Lv Bv
        obtain ⟨r, hr, rfl, rfl, Lr, hg, Br⟩ := hrel
        by_cases h0 : 0 < r
        · obtain ⟨s, rfl⟩ : ∃ s, r = s + 1 := ⟨r - 1, by omega⟩
          have e1 : (((s + 1 : Nat) : Int) - 1) = (s : Int) := by omega
          rw [e1]
          have hs : wr.cell? ⟨gl, s, none⟩ = some (.int .u8 (n8 (g8 (fl 8 N (s + 1)) s))) := Lr.at_ (c8_at (by rw [length_fl _ _ _ hr]; omega))
          have hf := Lr.frozen s
          have hset := fl_set 8 N (s + 1) (by omega) hr
          have hsd : sd N (8 - (s + 1)) / 256 = sd N (8 - s) := by
            have e : 8 - s = 8 - (s + 1) + 1 := by omega
            rw [e]; rfl
          have e8 : 8 - (s + 1) = 7 - s := by omega
          rw [e8] at hset hsd
          rw [Nat.add_sub_cancel] at hset
          have Hset := Lib.hid hset
          have Hsd := Lib.hid hsd
          clear hset hsd
          go_wp2_with fail
          go_roundw
          case rel =>
            refine ⟨s, by omega, by go_num, by rw [Hsd.out], ?_, grown_set hg _ _, Br.setCell (by simp; omega) _⟩
            have h1 := Lr.set_ s (.int .u8 (n8 (sd N (7 - s) % 256).toUInt8))
            rw [c8_set, Hset.out] at h1
            exact h1
          case measure => simp [intOf]
        · obtain rfl : r = 0 := by omega
          have ow := ov.kept hg (.inr hfar)
          have nw := Nv.grown hg (by simp; omega)
          have lw := hg.size
          have by8 := Lr.by8 8 (length_fl 8 N 0 (by omega)).symm (by rw [length_fl 8 N 0 (by omega)]; decide)
          have hfl := length_fl 8 N 0 (by omega)
          clear hg ov Nv
          go_wp2_with (first | (refine wpList_make64 rfl _ _ rfl 8 _ _ rfl rfl (by decide) ?_) | (at_builtin; refine app8 _ (w.heap.size + 1) _ (pz l j) rfl _ _ rfl rfl ow _ rfl (fl 8 N 0) 0 _ by8 (by rw [length_pz, Hml.out, hfl]; omega) (by omega) ?_; intro A3 c3 w3 hc3 hcm3 ho3 hB3 hg3 hat3; have hPl : (pz l j ++ fl 8 N 0).length = n + 1 + j + 8 := (by rw [List.length_append, length_pz, Hml.out, hfl]); generalize hp : pz l j ++ fl 8 N 0 = p at *; clear hp hg3 hat3 by8))
          have N4 := nw.below hB3 (by omega)
          have B4 := Br.trans (hB3.mono (by omega))
          have z4 : w.heap.size < w3.heap.size := by have := hB3.size; omega
          have hsq : squares.length = 8 := by decide +kernel
          clear hB3 hfl lw nw ow Lr Br
          have P4 := ho3.by_
          obtain ⟨w4, hw4⟩ : ∃ x, x = w3.alloc (Obj.cells (c64 (z64 8)).toArray 103) := ⟨_, rfl⟩
          rw [← hw4]
          have H4 : Bk w4 w3.heap.size 103 (c64 (hs32.take 0 ++ (z64 8).drop 0)) := by rw [hw4]; exact Bk.new _ _ _
          have D4 : Below w3.heap.size w3 w4 := by rw [hw4]; exact (Below.refl _ _).alloc (Nat.le_refl _) _
          generalize hgh : w3.heap.size = gh at *
          have zg : w.heap.size < gh := z4
          have eW : IntKind.u64.wrap (64 - (32 : Int)) = 32 := by decide
          clear hw4 z4 zv zr hfar hgh
          go_wp2_with fail
          go_loopw [83] (fun t wr => ∃ k : Nat, k ≤ 8 ∧ t = .int .i64 k ∧ Bk wr gh 103 (c64 (hs32.take k ++ (z64 8).drop k)) ∧ Below gh w3 wr) (fun t _ => 8 - (intOf t).toNat)
          case atStart => exact ⟨0, by omega, rfl, H4, D4⟩
          case round =>
            clear H4 D4
            obtain ⟨k, hk, rfl, Hr, Dr⟩ := hrel
            by_cases hlt : k < 8
            · go_wp2_with fail
              refine (square_any k hlt _).mono ?_; rintro e w5 ⟨rfl, hb5⟩
              have H5 := Hr.below hb5 Hr.lt
              have D5 := Dr.trans (hb5.mono (by have := Hr.lt; omega))
              have hcl : w5.cell? ⟨gh, k, none⟩ = some (.int .u64 (n64 (g64 (hs32.take k ++ (z64 8).drop k) k))) := H5.at_ (c64_at (by simp [hs32, hsq]; omega))
              have hfz := H5.frozen k
              clear Hr Dr hb5
              go_wp2_with fail
              go_roundw
              case rel => exact ⟨k + 1, by omega, by go_num, by have := H5.set_ k (.int .u64 (n64 (g64 squares k >>> 32))); rwa [c64_set, hs32_set k hlt] at this, D5.setCell (by simp) _⟩
              case measure => simp [intOf]; omega
            · obtain rfl : k = 8 := by omega
              have e88 : ((8 : Nat) : Int) = 8 := rfl
              rw [e88]
              clear e88
              have h8 : hs32.take 8 ++ (z64 8).drop 8 = (up (state32 p 0)) := by
                show _ = up (squares.map fun (r : UInt64) => (r >>> 32).toUInt32)
                rw [← hs32_eq, List.take_of_length_le (by simp [hs32, hsq]), List.drop_of_length_le (by simp), List.append_nil]
              rw [h8] at Hr
              clear h8
              go_wp2_with fail
              obtain ⟨A4, c4, e4, -, -, hrdp⟩ := P4.open_
              injection e4 with e4 _ e5
              subst e4
              subst e5
              have hmod : p.length % 64 = 0 := by rw [Hpad.out]; exact (pad_mod l).1
              refine dig32_blocks p hPl hmod (by omega) hcm3 (hrdp.less (Nat.zero_le _)) (by omega) zg N4 Hr Dr ?_
              clear Hr Dr
              intros
              rename_i wa hblk Dr
              obtain ⟨i, hi, Hr⟩ := hblk
              have hst : out32 (state32 p i) = sum32 l := by
                unfold sum32
                rw [← Hpad.out, show p.length = 64 * i by omega, Nat.mul_div_cancel_left _ (by decide)]
              have HST := Lib.hid hst
              have hSl : (state32 p i).length = 8 := length_state32 p i
              have BS := B4.trans (Dr.mono (by omega))
              generalize state32 p i = S at *
              clear hst hi hrdp hcm3 hc3 P4 ho3
              go_wp2_with fail
              refine dig32_out S hSl Hr ?_
              intros
              rename_i wo Or Er
              rw [HST.out] at Or
              go_wp2_with fail
              go_ret
              exact ⟨_, rfl, Or.less BS.size, BS.trans (Er.mono BS.size)⟩
end Go.Proofs.Ytlegpkdighoflaa
namespace Go.Proofs.Ytlegpkdighoflaa
open Go Go.RowKit Sh
set_option maxRecDepth 100000 in
set_option maxHeartbeats 2000000 in
theorem refsum_any (v : Value) (ls : List (List UInt8)) (w : World) (hp : Parts w w.heap.size v ls) (hsz : ls.flatten.length ≤ 1099511627776) :
    Calls Try.prog 21 #[v] w fun e w' => e = .returned (A8 (sum32 ls.flatten)) ∧ Below w.heap.size w w' := by
  obtain ⟨vs, ⟨A, c, rfl, hc, hcm, hrd⟩, hvl, hel⟩ := hp
  have hvm : vs.length ≤ 9223372036854775807 := by unfold maxLen at hcm; omega
  rw [hvl] at hvm hc
  rw [hvl]
  go_enter Try.func21, Try.ntmps21
  go_wp2_with fail
  obtain ⟨w0, hw0⟩ : ∃ x, x = w.alloc (Obj.cells (c8 (z8 32)).toArray 24) := ⟨_, rfl⟩
  rw [← hw0]
  have B0 : Below w.heap.size w w0 := by rw [hw0]; exact (Below.refl _ _).alloc (Nat.le_refl _) _
  have R0 : Bk w0 w.heap.size 24 (c8 (z8 32)) := by rw [hw0]; exact Bk.new _ _ _
  have z0 := R0.lt
  clear hw0
  go_loopw [3, 11] (fun u i wr => ∃ k : Nat, k ≤ ls.length ∧ i = .int .i64 k ∧ Own8 wr w0.heap.size u (cat ls k) ∧ Below w0.heap.size w0 wr) (fun _ i _ => ls.length - (intOf i).toNat)
  case atStart => exact ⟨0, Nat.zero_le _, rfl, Own8.nil _ _, Below.refl _ _⟩
  case round =>
    obtain ⟨k, hk, rfl, ho, hb⟩ := hrel
    by_cases hlt : k < ls.length
    · obtain ⟨g, o, rfl, _, hg, hcell⟩ := hrd.some (by omega)
      obtain ⟨Ak, ck, hx, hk1, hk2, hby⟩ := Parts.at_ hvl hel hlt
      have hBB := B0.trans (hb.mono B0.size)
      have hcx : wr.cell? ⟨g, o + k, none⟩ = _ := (hBB.cell (by exact hg)).trans (hcell k _ hx)
      have hfs := cat_step ls k hlt
      have hfl := cat_le ls (k + 1)
      rw [hfs, List.length_append] at hfl
      have HF := Lib.hid hfs
      have hby' := hby.below hBB
      clear hfs hx hcell hel hrd hby
      go_wp2_with (at_builtin; refine app8 _ w0.heap.size _ _ rfl _ _ rfl rfl ho _ rfl (gl ls k) 0 w.heap.size hby' (by omega) hb.size ?_; intro A2 c2 w2 hc1 hc2 ho2 hb2 hg2 hat2)
      go_roundw
      case rel => exact ⟨k + 1, by omega, by go_num, by rw [List.length_append] at ho2; rw [HF.out]; exact ho2, hb.trans hb2⟩
      case measure => simp [intOf]; omega
    · obtain rfl : k = ls.length := by omega
      rw [cat_all] at ho
      clear hrd hel
      generalize hm : ls.flatten = m at *
      have Hm := Lib.hid hm
      clear hm
      have Rr := R0.below hb z0
      have BB := B0.trans (hb.mono B0.size)
      go_wp2_with fail
      obtain ⟨w1, hw1⟩ : ∃ x, x = wr.alloc (Obj.cells (c8 (z8 32)).toArray 24) := ⟨_, rfl⟩
      rw [← hw1]
      have H1 : Bk w1 wr.heap.size 24 (c8 (z8 32)) := by rw [hw1]; exact Bk.new _ _ _
      have R1 : Bk w1 w.heap.size 24 (c8 (z8 32)) := by rw [hw1]; exact Rr.alloc _
      have B1 : Below w.heap.size w w1 := by rw [hw1]; exact BB.alloc BB.size _
      have y1 : By w1 0 w1.heap.size u3 m := by rw [hw1]; exact ((ho.by_.less (Nat.zero_le _)).below ((Below.refl _ _).alloc (Nat.le_refl _) _)).more (by simp)
      have zh := H1.lt
      have zg : w.heap.size < wr.heap.size := by have := hb.size; omega
      generalize wr.heap.size = gh at *
      clear hw1 ho hb BB Rr
      refine (digest32 _ m w1 y1 hsz).mono ?_
      rintro e w2 ⟨u, rfl, hu, h2⟩
      have l32 := length_sum32 m
      obtain ⟨gu, ou, cu, rfl, hcu, hcu2, hgu1, hgu2, hru⟩ := hu.by_.row (by omega)
      rw [l32] at hru hcu ⊢
      obtain ⟨hrl, hrc⟩ := rowAt_some hru
      have H2 := H1.below h2 zh
      have R2 := R1.below h2 R1.lt
      have B2 := B1.trans (h2.mono B1.size)
      have HM : Hid (sum32 m = sum32 m) := Lib.hid rfl
      generalize hX : sum32 m = X at *
      have HX := Lib.hid hX
      clear hX HM hu h2 hru
      have Hj : Bk w2 gh 24 (c8 (X.take 0 ++ (z8 32).drop 0)) := by simpa using H2
      clear H2 H1 R1
      go_wp2_with fail
      go_loopw [22] (fun t wr => ∃ k : Nat, k ≤ 32 ∧ t = .int .i64 (k : Int) ∧ Bk wr gh 24 (c8 (X.take k ++ (z8 32).drop k)) ∧ Bk wr w.heap.size 24 (c8 (z8 32)) ∧ Below w.heap.size w wr ∧ (∀ j, j < 32 → wr.cell? ⟨gu, ou + j, none⟩ = some (.int .u8 (n8 (g8 X j))))) (fun t _ => 32 - (intOf t).toNat)
      case atStart => exact ⟨0, by omega, rfl, Hj, R2, B2, fun j hj => by have := hrc j _ (c8_at (by omega)); rwa [addr_lit] at this⟩
      case round =>
        clear Hj R2 B2 hrc
        obtain ⟨k, hk, rfl, Hr, Rr, Br, hcu⟩ := hrel
        by_cases hk32 : k < 32
        · have ex := hcu k hk32
          have hjl : k < (X.take k ++ (z8 32).drop k).length := by simp [l32]; omega
          have eh := Hr.at_ (c8_at hjl)
          have ef := Hr.frozen k
          have hset : (X.take k ++ (z8 32).drop k).set k (g8 X k) = X.take (k + 1) ++ (z8 32).drop (k + 1) := set_join _ _ _ _ (by simp [l32]) (by omega) (by unfold g8; rw [List.getElem?_eq_getElem (by omega)]; simp [show k < X.length by omega])
          have Hset := Lib.hid hset
          have Hcu := Lib.hid hcu
          clear hset hcu hjl
          go_wp2_with fail
          go_roundw
          case rel =>
            refine ⟨k + 1, by omega, by go_num, ?_, Rr.far (by simp; omega) _, Br.setCell (by simp; omega) _, fun j hj => ?_⟩
            · rw [← Hset.out, ← c8_set]; exact Hr.set_ k _
            · have := Hcu.out j hj
              rw [World.cell?_of_block (Below.heap_setCell _ _ _ _ (by simp; omega))]
              exact this
          case measure => simp [intOf]; omega
        · obtain rfl : k = 32 := by omega
          have hfin : X.take 32 ++ (z8 32).drop 32 = X := by rw [List.take_of_length_le (by omega), List.drop_of_length_le (by simp), List.append_nil]
          rw [hfin] at Hr
          have hrow : rowAt wr ⟨gh, 0, none⟩ 32 = some (c8 X) := by have := Hr.rows; rwa [length_c8, l32] at this
          have hcan : canAt wr ⟨w.heap.size, 0, none⟩ 32 = true := Rr.can (by simp)
          clear hcu hfin Hr
          go_wp2_with fail
          refine bodyPost_ret (results_row rfl _ _ _ _ _ _ rfl (Rr.puts (vs := c8 X) (by simp [l32])) Try.underlying24 rfl (by simp [info_h32, l32])) rfl ⟨?_, below_putAt Br (by simp) _⟩
          rw [← HX.out, Hm.out]
          rfl
end Go.Proofs.Ytlegpkdighoflaa
