/- The tree package's Get; the reference's Bit. -/
import Derived.Test.YtpalomkcgfalnaaTreeD
import Derived.Test.YtpalomkcgfalnaaTrq
import Derived.Outline
set_option linter.unusedVariables false
set_option linter.unusedSimpArgs false
namespace Go.Proofs.Ytpalomkcgfalnaa
open Go Go.RowKit Sh
def bitInt (b : Bool) : Int := if b then 1 else 0
theorem kbit_int (k : List UInt8) (n : Nat) : (((g8 k (n / 8)).toNat / 2 ^ (7 - n % 8) : Nat) : Int) % 2 = bitInt (kbit k n) := by
  unfold bitInt
  rw [kbit_test, Nat.testBit_eq_decide_div_mod_eq]
  by_cases h : (g8 k (n / 8)).toNat / 2 ^ (7 - n % 8) % 2 = 1
  · rw [if_pos (by simpa using h)]; omega
  · rw [if_neg (by simpa using h)]; omega
set_option maxRecDepth 100000 in
set_option maxHeartbeats 1000000 in
theorem refbit_any (k : List UInt8) (n : Nat) (hk : k.length = 32) (hn : n < 256) (w : World) :
    Calls Try.prog 27 #[A8 k, .int .i64 (n : Int)] w fun e w' => e = .returned (.int .i64 (bitInt (kbit k n))) ∧ Below w.heap.size w w' := by
  have hc : (w.alloc (.cells (c8 k).toArray 25)).cell? ⟨w.heap.size, n / 8, none⟩ = some (.int .u8 (n8 (g8 k (n / 8)))) := (Bk.new w _ _).at_ (c8_at (by omega))
  have h1 : (n : Int) / 8 = ((n / 8 : Nat) : Int) := by omega
  have hq : n / 8 < 32 := by omega
  have h2 : (n : Int) % 8 = ((n % 8 : Nat) : Int) := by omega
  have hr : n % 8 < 8 := by omega
  have hres := Lib.hid (kbit_int k n)
  generalize hx : g8 k (n / 8) = x at *
  generalize hnq : n / 8 = q at *
  generalize hnr : n % 8 = r at *
  clear hnq hnr hx
  have hb1 := (n8_bd x).1
  have hb2 := (n8_bd x).2
  have hx8 : n8 x = (x.toNat : Int) := rfl
  have Hx8 := Lib.hid hx8
  clear hx8
  go_enter Try.func27, Try.ntmps27
  go_wp2_with fail
  go_loop [5, 6] (fun v i => ∃ j : Nat, j ≤ 7 - r ∧ i = .int .i64 (j : Int) ∧ v = .int .i64 ((x.toNat / 2 ^ j : Nat) : Int)) (fun _ i => 8 - (intOf i).toNat)
  case atStart => exact ⟨0, by omega, rfl, by rw [Hx8.out]; simp⟩
  case round =>
    obtain ⟨j, hj, rfl, rfl⟩ := hrel
    have hyb : x.toNat / 2 ^ j ≤ x.toNat := Nat.div_le_self _ _
    have hxb : x.toNat < 256 := UInt8.toNat_lt x
    have hnext : x.toNat / 2 ^ (j + 1) = x.toNat / 2 ^ j / 2 := by rw [Nat.pow_succ, Nat.div_div_eq_div_mul]
    have Hnext := Lib.hid hnext
    clear hnext
    by_cases hlt : j < 7 - r
    · generalize hy : x.toNat / 2 ^ j = y at *
      have Hy := Lib.hid hy
      clear hy
      go_wp2_with fail
      go_round
      case rel => exact ⟨j + 1, by omega, by go_num, by rw [Hnext.out]; go_num⟩
      case measure => simp [intOf]; omega
    · obtain rfl : j = 7 - r := by omega
      generalize hy : x.toNat / 2 ^ (7 - r) = y at *
      have Hy := Lib.hid hy
      clear hy Hnext
      go_wp2_with fail
      go_ret
      refine ⟨?_, (Below.refl _ _).alloc (Nat.le_refl _) _⟩
      rw [← hres.out]
      rfl
def getRes : Option (List UInt8) → Value
  | some v => .tuple #[A8 v, .bool true]
  | none => .tuple #[A8 (z8 32), .bool false]
theorem getRes_look {k : List UInt8} {t : Tr} {d : Nat} : t.look k d = (match t.lead k d with | some (k', v) => if k' = k then some v else none | none => none) := rfl
set_option maxRecDepth 100000 in
set_option maxHeartbeats 2000000 in
theorem tget_any (k : List UInt8) (hk : k.length = 32) (d : Nat) (t : Tr) (P : Nat → Bool) (p : Value) (w : World) (hd : d ≤ 256) (ok : Ok d P t) (h : At w w.heap.size t p) :
    Calls Try.prog 28 #[.agg #[p, .int .i64 (d : Int)], A8 k] w fun e w' => e = .returned (getRes (t.look k d)) ∧ Below w.heap.size w w' := by
  obtain ⟨ap, rfl⟩ := h.form
  go_enter Try.func28, Try.ntmps28
  go_wp2_with fail
  obtain ⟨w0, hw0⟩ : ∃ x, x = ((w.alloc (Obj.cells #[.pointer ap, .int .i64 (d : Int)] 40)).alloc (Obj.cells (c8 k).toArray 25)).alloc (Obj.cells (c8 (z8 32)).toArray 25) := ⟨_, rfl⟩
  rw [← hw0]
  have B0 : Below w.heap.size w w0 := by rw [hw0]; exact (((Below.refl _ _).alloc (Nat.le_refl _) _).alloc (by simp) _).alloc (by simp; omega) _
  have K0 : Bk w0 (w.heap.size + 1) 25 (c8 k) := by rw [hw0]; exact (by simpa using Bk.new (w.alloc (Obj.cells #[.pointer ap, .int .i64 (d : Int)] 40)) 25 (c8 k) : Bk _ _ _ _).alloc _
  have R0 : Bk w0 (w.heap.size + 1 + 1) 25 (c8 (z8 32)) := by rw [hw0]; simpa using Bk.new ((w.alloc (Obj.cells #[.pointer ap, .int .i64 (d : Int)] 40)).alloc (Obj.cells (c8 k).toArray 25)) 25 (c8 (z8 32))
  clear hw0
  have z0 := R0.lt
  have hat := (h.below B0).more B0.size
  have hlook : t.look k d = (match t.lead k d with | some (k', v) => if k' = k then some v else none | none => none) := rfl
  have Hlook := Lib.hid hlook
  clear hlook h
  go_loopw [6, 7] (fun q j wr => ∃ (s : Tr) (i : Nat) (P' : Nat → Bool), j = .int .i64 (i : Int) ∧ i ≤ 256 ∧ Ok i P' s ∧ At w0 w0.heap.size s q ∧ t.lead k d = s.lead k i ∧ Below w0.heap.size w0 wr) (fun _ j _ => 257 - (intOf j).toNat)
  case atStart => exact ⟨t, d, P, rfl, hd, ok, hat, rfl, Below.refl _ _⟩
  case round =>
    clear hat ok hd
    obtain ⟨s, i, P', rfl, hi, ok, hat, hlead, Br⟩ := hrel
    have Hlead := Lib.hid hlead
    clear hlead
    have Kr := K0.below Br (by omega)
    have Rr := R0.below Br z0
    have BB := below_two B0 Br B0.size
    have hkr : rowAt wr ⟨w.heap.size + 1, 0, none⟩ 32 = some (c8 k) := by have := Kr.rows; rwa [length_c8, hk] at this
    have hcan : canAt wr ⟨w.heap.size + 1 + 1, 0, none⟩ 32 = true := Rr.can (by simp)
    cases s with
    | e =>
      obtain rfl : u6 = .pointer none := hat
      go_wp2_with fail
      go_quiet (fail)
      go_wp2_with fail
      refine bodyPost_ret (results_two rfl (ResAt.row ((Rr.drewN nq).puts (vs := c8 (z8 32)) (by simp)) rfl _ Try.underlying25 rfl (by simp [info_h32])) (ResAt.tmp rfl)) rfl ⟨?_, below_putAt (below_drewN BB nq) (by simp; omega) _⟩
      rw [Hlook.out, Hlead.out]
      rfl
    | lf k' v =>
      obtain ⟨g, rfl, hg, hk', hv, hb⟩ := hat
      have hb' := hb.below Br hg
      have hc := node_count hb' hk' hv (Tr.root_length _)
      have hkk := node_key hb' hk'
      have hvv := node_value hb' hk' hv
      clear hb hb'
      by_cases e : k' = k
      · have hne : (k' == k) = true := by simp [e]
        go_wp2_with fail
        go_quiet (fail)
        go_wp2_with fail
        refine bodyPost_ret (results_two rfl (ResAt.row ((Rr.drewN nq).puts (vs := c8 v) (by simp [hv])) rfl _ Try.underlying25 rfl (by simp [info_h32, hv])) (ResAt.tmp rfl)) rfl ⟨?_, below_putAt (below_drewN BB nq) (by simp; omega) _⟩
        rw [Hlook.out, Hlead.out]
        simp only [Tr.lead, if_pos e]
        rfl
      · have hne : (k' == k) = false := by simp [e]
        go_wp2_with fail
        go_quiet (fail)
        go_wp2_with fail
        refine bodyPost_ret (results_two rfl (ResAt.row ((Rr.drewN nq).puts (vs := c8 (z8 32)) (by simp)) rfl _ Try.underlying25 rfl (by simp [info_h32])) (ResAt.tmp rfl)) rfl ⟨?_, below_putAt (below_drewN BB nq) (by simp; omega) _⟩
        rw [Hlook.out, Hlead.out]
        simp only [Tr.lead, if_neg e]
        rfl
    | nd l r =>
      obtain ⟨g, pl, pr, rfl, hg, hb, hatl, hatr⟩ := hat
      have hb' := hb.below Br hg
      have hc := node_count hb' (length_z8 32) (length_z8 32) (Tr.root_length _)
      have hl := node_left hb' (length_z8 32) (length_z8 32)
      have hr := node_right hb' (length_z8 32) (length_z8 32)
      have h2 := ok.2.1
      have hi2 := ok.1
      have hgt : decide ((1 : Int) < (l.len : Int) + r.len) = true := decide_eq_true (by omega)
      clear hb hb'
      go_wp2_with fail
      refine (treebit_any k i hk hi2 _).mono ?_
      rintro e' w1 ⟨rfl, h1⟩
      have B1 := below_two Br h1 Br.size
      have hl1 := (h1.cell (p := ⟨g, 64, none⟩) (by have := Br.size; simp; omega)).trans hl
      have hr1 := (h1.cell (p := ⟨g, 65, none⟩) (by have := Br.size; simp; omega)).trans hr
      cases hb : kbit k i
      · go_wp2_with fail
        go_roundw
        case rel => exact ⟨l, i + 1, _, by go_num, by omega, ok.2.2.1, hatl, by rw [Hlead.out]; simp [Tr.lead, hb], B1⟩
        case measure => simp [intOf]; omega
      · go_wp2_with fail
        go_roundw
        case rel => exact ⟨r, i + 1, _, by go_num, by omega, ok.2.2.2, hatr, by rw [Hlead.out]; simp [Tr.lead, hb], B1⟩
        case measure => simp [intOf]; omega
end Go.Proofs.Ytpalomkcgfalnaa
