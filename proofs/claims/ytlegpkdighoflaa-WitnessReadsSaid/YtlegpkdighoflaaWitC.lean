/- witness: bit, Get, put. -/
import Derived.Test.YtlegpkdighoflaaWitB
import Derived.Outline
set_option linter.unusedVariables false
set_option linter.unusedSimpArgs false
namespace Go.Proofs.Ytlegpkdighoflaa
open Go Go.RowKit Sh
set_option maxHeartbeats 1000000 in
theorem wbit_any (k : List UInt8) (n : Nat) (hk : k.length = 32) (hn : n < 256) (w : World) :
    Calls Try.prog 22 #[A8 k, .int .i64 (n : Int)] w fun e w' => e = .returned (.bool (kbit k n)) ∧ Below w.heap.size w w' := by
  have hc : (w.alloc (.cells (c8 k).toArray 24)).cell? ⟨w.heap.size, n / 8, none⟩ = some (.int .u8 (n8 (g8 k (n / 8)))) := (Bk.new w _ _).at_ (c8_at (by omega))
  have hb : Hid (kbit k n = ((g8 k (n / 8) >>> UInt8.ofNat (7 - n % 8)) &&& 1 == 1)) := Lib.hid rfl
  generalize g8 k (n / 8) = x at *
  have h1 : (n : Int) / 8 = ((n / 8 : Nat) : Int) := by omega
  have hq : n / 8 < 32 := by omega
  have h2 : (n : Int) % 8 = ((n % 8 : Nat) : Int) := by omega
  have hr : n % 8 < 8 := by omega
  generalize hnq : n / 8 = q at *
  generalize hnr : n % 8 = r at *
  clear hnq hnr
  have hr8 : r = 0 ∨ r = 1 ∨ r = 2 ∨ r = 3 ∨ r = 4 ∨ r = 5 ∨ r = 6 ∨ r = 7 := by omega
  rcases hr8 with rfl | rfl | rfl | rfl | rfl | rfl | rfl | rfl
  all_goals
    go_enter Try.func22, Try.ntmps22
    go_wp2
    go_ret
    refine ⟨?_, (Below.refl _ _).alloc (Nat.le_refl _) _⟩
    rw [hb.out]
    exact congrArg (fun b => Ending.returned (.bool b)) (low_bit _)
/-- How deep its inner nodes stand. -/
def Pt.Dp : Nat → Pt → Prop
  | d, .nd l r => d < 256 ∧ l.Dp (d + 1) ∧ r.Dp (d + 1)
  | _, _ => True
def Pt.get (k : List UInt8) : Nat → Pt → List UInt8 × Bool × Nat
  | _, .e => (z8 32, false, 0)
  | _, .lf k' v => if k' = k then (v, true, 0) else (z8 32, false, 0)
  | _, .hd _ => (z8 32, false, 100)
  | d, .nd l r => if kbit k d then r.get k (d + 1) else l.get k (d + 1)
theorem Pt.get_length {k : List UInt8} : ∀ {p : Pt} {d : Nat}, p.Wf → (p.get k d).1.length = 32
  | .e, _, _ => by simp [Pt.get]
  | .lf k' v, _, h => by simp only [Pt.get]; split <;> simp [h.2]
  | .hd _, _, _ => by simp [Pt.get]
  | .nd l r, d, h => by by_cases hb : kbit k d = true <;> simp only [Pt.get, hb, if_true, if_false, Bool.false_eq_true] <;> first | exact Pt.get_length h.2 | exact Pt.get_length h.1
def pgRes (x : List UInt8 × Bool × Nat) : Value := .tuple #[A8 x.1, .bool x.2.1, .int .i64 (x.2.2 : Int)]
set_option maxRecDepth 100000 in
set_option maxHeartbeats 2000000 in
theorem pget_any (k : List UInt8) (hk : k.length = 32) (p : Pt) (hw : p.Wf) (hd : p.Dp 0) (w : World) :
    Calls Try.prog 10 #[.agg #[p.val], A8 k] w fun e w' => e = .returned (pgRes (p.get k 0)) ∧ Below w.heap.size w w' := by
  go_enter Try.func10, Try.ntmps10
  go_wp2_with fail
  obtain ⟨W0, hW0⟩ : ∃ x, x = ((w.alloc (Obj.cells #[p.val] 31)).alloc (Obj.cells (c8 k).toArray 24)).alloc (Obj.cells (c8 (z8 32)).toArray 24) := ⟨_, rfl⟩
  rw [← hW0]
  have B0 : Below w.heap.size w W0 := by rw [hW0]; exact (((Below.refl _ _).alloc (Nat.le_refl _) _).alloc (by simp) _).alloc (by simp; omega) _
  have K0 : Bk W0 (w.heap.size + 1) 24 (c8 k) := by rw [hW0]; exact (by simpa using Bk.new (w.alloc (Obj.cells #[p.val] 31)) 24 (c8 k) : Bk _ _ _ _).alloc _
  have R0 : Bk W0 (w.heap.size + 1 + 1) 24 (c8 (z8 32)) := by rw [hW0]; simpa using Bk.new ((w.alloc (Obj.cells #[p.val] 31)).alloc (Obj.cells (c8 k).toArray 24)) 24 (c8 (z8 32))
  clear hW0
  have z0 := R0.lt
  go_loopw [7, 8] (fun n d wr => ∃ (q : Pt) (i : Nat), n = q.val ∧ d = .int .i64 (i : Int) ∧ i ≤ 256 ∧ q.Wf ∧ q.Dp i ∧ p.get k 0 = q.get k i ∧ Below W0.heap.size W0 wr) (fun _ d _ => 257 - (intOf d).toNat)
  case atStart => exact ⟨p, 0, rfl, rfl, by omega, hw, hd, rfl, Below.refl _ _⟩
  case round =>
    clear hw hd
    obtain ⟨q, i, rfl, rfl, hi, hw, hd, hget, Br⟩ := hrel
    have Hget := Lib.hid hget
    clear hget
    have Kr := K0.below Br (by omega)
    have Rr := R0.below Br z0
    have BB := below_two B0 Br B0.size
    have hkr : rowAt wr ⟨w.heap.size + 1, 0, none⟩ 32 = some (c8 k) := by have := Kr.rows; rwa [length_c8, hk] at this
    have hcan : canAt wr ⟨w.heap.size + 1 + 1, 0, none⟩ 32 = true := Rr.can (by simp)
    cases q with
    | e =>
      dsimp only [Pt.val]
      go_wp2_with fail
      refine bodyPost_ret (results_three rfl (ResAt.row (Rr.puts (vs := c8 (z8 32)) (by simp)) rfl _ Try.underlying24 rfl (by simp [info_h32])) (ResAt.tmp rfl) (ResAt.tmp rfl)) rfl ⟨?_, below_putAt BB (by simp; omega) _⟩
      rw [Hget.out]
      rfl
    | hd h =>
      have hhl : h.length = 32 := hw
      obtain ⟨W, hW⟩ : ∃ y, y = putAt (wr.alloc (Obj.cells (c8 (z8 32)).toArray 73)) ⟨wr.heap.size, 0, none⟩ (c8 h) := ⟨_, rfl⟩
      have hb1 : Below wr.heap.size wr W := by rw [hW]; exact below_putAt ((Below.refl _ _).alloc (Nat.le_refl _) _) (Nat.le_refl _) _
      have R1 := Rr.below hb1 Rr.lt
      have B1 := below_two BB hb1 BB.size
      have hcan1 : canAt W ⟨w.heap.size + 1 + 1, 0, none⟩ 32 = true := R1.can (by simp)
      rw [hW] at hcan1
      dsimp only [Pt.val]
      go_wp2_with fail
      rw [← hW]
      refine bodyPost_ret (results_three rfl (ResAt.row (R1.puts (vs := c8 (z8 32)) (by simp)) rfl _ Try.underlying24 rfl (by simp [info_h32])) (ResAt.tmp rfl) (ResAt.tmp rfl)) rfl ⟨?_, below_putAt B1 (by simp; omega) _⟩
      rw [Hget.out]
      rfl
    | lf k' v =>
      have hk' : k'.length = 32 := hw.1
      have hv : v.length = 32 := hw.2
      have hl64 : (pb (k', v)).length = 64 := PrOk.len ⟨hk', hv⟩
      obtain ⟨W, hW⟩ : ∃ y, y = putAt (wr.alloc (Obj.cells (c8 (z8 64)).toArray 75)) ⟨wr.heap.size, 0, none⟩ (c8 (pb (k', v))) := ⟨_, rfl⟩
      have hb1 : Below wr.heap.size wr W := by rw [hW]; exact below_putAt ((Below.refl _ _).alloc (Nat.le_refl _) _) (Nat.le_refl _) _
      have P1 : Bk W wr.heap.size 75 (c8 (pb (k', v))) := by rw [hW]; exact Bk.fresh wr _ (by simp [hl64])
      have R1 := Rr.below hb1 Rr.lt
      have K1 := Kr.below hb1 Kr.lt
      have B1 := below_two BB hb1 BB.size
      have hcan1 : canAt W ⟨w.heap.size + 1 + 1, 0, none⟩ 32 = true := R1.can (by simp)
      have rk := pair_key P1 ⟨hk', hv⟩
      have rv := pair_val P1 ⟨hk', hv⟩
      have hkr1 : rowAt W ⟨w.heap.size + 1, 0, none⟩ 32 = some (c8 k) := by have := K1.rows; rwa [length_c8, hk] at this
      rw [hW] at hcan1 rk rv hkr1
      dsimp only [Pt.val]
      by_cases e : k' = k
      · subst e
        have hne : (k' == k') = true := by simp
        go_wp2_with fail
        rw [← hW]
        refine bodyPost_ret (results_three rfl (ResAt.row (R1.puts (vs := c8 v) (by simp [hv])) rfl _ Try.underlying24 rfl (by simp [info_h32, hv])) (ResAt.tmp rfl) (ResAt.tmp rfl)) rfl ⟨?_, below_putAt B1 (by simp; omega) _⟩
        rw [Hget.out]
        simp only [Pt.get, if_true]
        rfl
      · have hne : (k' == k) = false := by simp [e]
        go_wp2_with fail
        rw [← hW]
        refine bodyPost_ret (results_three rfl (ResAt.row (R1.puts (vs := c8 (z8 32)) (by simp)) rfl _ Try.underlying24 rfl (by simp [info_h32])) (ResAt.tmp rfl) (ResAt.tmp rfl)) rfl ⟨?_, below_putAt B1 (by simp; omega) _⟩
        rw [Hget.out]
        simp only [Pt.get, if_neg e]
        rfl
    | nd l r =>
      obtain ⟨W, hW⟩ : ∃ y, y = wr.alloc (Obj.cells #[l.val, r.val] 70) := ⟨_, rfl⟩
      have hb1 : Below wr.heap.size wr W := by rw [hW]; exact (Below.refl _ _).alloc (Nat.le_refl _) _
      have P1 : Bk W wr.heap.size 70 [l.val, r.val] := by rw [hW]; exact Bk.new wr _ [l.val, r.val]
      have K1 := Kr.below hb1 Kr.lt
      have hkr1 : rowAt W ⟨w.heap.size + 1, 0, none⟩ 32 = some (c8 k) := by have := K1.rows; rwa [length_c8, hk] at this
      have c0 : W.cell? ⟨wr.heap.size, 0, none⟩ = some l.val := P1.at_ rfl
      have c1 : W.cell? ⟨wr.heap.size, 1, none⟩ = some r.val := P1.at_ rfl
      rw [hW] at hkr1 c0 c1
      dsimp only [Pt.val]
      go_wp2_with fail
      rw [← hW]
      clear c0 c1 hkr1
      refine (wbit_any k i hk hd.1 W).mono ?_
      rintro e W2 ⟨rfl, h2⟩
      have P2 := P1.below h2 P1.lt
      have Br2 : Below W0.heap.size W0 W2 := (Br.trans (hb1.mono Br.size)).trans (h2.mono (by have := Br.size; have := hb1.size; omega))
      have c1 : W2.cell? ⟨wr.heap.size, 1, none⟩ = some r.val := P2.at_ rfl
      have hd1 := hd.1
      cases hbit : kbit k i
      · go_wp2_with fail
        go_roundw
        case rel => exact ⟨l, i + 1, rfl, by go_num, by omega, hw.1, hd.2.1, by rw [Hget.out]; simp only [Pt.get, hbit]; rfl, Br2⟩
        case measure => simp [intOf]; omega
      · go_wp2_with fail
        go_roundw
        case rel => exact ⟨r, i + 1, rfl, by go_num, by omega, hw.2, hd.2.2, by rw [Hget.out]; simp only [Pt.get, hbit]; rfl, Br2⟩
        case measure => simp [intOf]; omega
end Go.Proofs.Ytlegpkdighoflaa
