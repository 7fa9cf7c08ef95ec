/- witanref10: Part.Get. -/
import Derived.Test.YtlegpkdighoflaaNd
import Derived.Test.YtlegpkdighoflaaWitP
set_option linter.unusedVariables false
set_option linter.unusedSimpArgs false
namespace Go.Proofs.Ytlegpkdighoflaa
open Go Go.RowKit Sh
/-- Node number i and what hangs below it are this part. -/
def NAt (nds : List NV) : Nat → Pt → Prop
  | i, .e => ∃ x, nds[i]? = some x ∧ x.kind = 0
  | i, .lf k v => ∃ x, nds[i]? = some x ∧ x.kind = 1 ∧ x.k = k ∧ x.v = v
  | i, .nd l r => ∃ (x : NV) (a b : Nat), nds[i]? = some x ∧ x.kind = 2 ∧ x.l = (a : Int) ∧ x.r = (b : Int) ∧ NAt nds a l ∧ NAt nds b r
  | i, .hd h => ∃ x, nds[i]? = some x ∧ x.kind = 3 ∧ x.v = h
def Pt.kind : Pt → Int | .e => 0 | .lf _ _ => 1 | .nd _ _ => 2 | .hd _ => 3
theorem Bk.row32_ {w : World} {g : Nat} {t : TypeId} {l : List UInt8} (h : Bk w g t (c8 l)) (hl : l.length = 32) : rowAt w ⟨g, 0, none⟩ 32 = some (c8 l) := by have := h.rows; rwa [length_c8, hl] at this
theorem NAt.some {nds : List NV} {i : Nat} : ∀ {p : Pt}, NAt nds i p → ∃ x, nds[i]? = some x ∧ x.kind = p.kind
  | .e, ⟨x, h, h1⟩ => ⟨x, h, h1⟩
  | .lf _ _, ⟨x, h, h1, _⟩ => ⟨x, h, h1⟩
  | .nd _ _, ⟨x, _, _, h, h1, _⟩ => ⟨x, h, h1⟩
  | .hd _, ⟨x, h, h1, _⟩ => ⟨x, h, h1⟩
/-- The part in block gp, its nodes in block gn. -/
def PS (W : World) (gp gn : Nat) (nds : List NV) (c : Nat) : Prop := ∃ tl, Bk W gp 62 [.slice (some ⟨gn, 0, none⟩) nds.length c] ∧ ND W gn nds tl
theorem PS.below {W W' : World} {gp gn : Nat} {nds : List NV} {c : Nat} (h : PS W gp gn nds c) (hb : Below W.heap.size W W') : PS W' gp gn nds c := let ⟨tl, h1, h2⟩ := h; ⟨tl, h1.below hb h1.lt, h2.below hb h2.lt⟩
theorem PS.lt {W : World} {gp gn : Nat} {nds : List NV} {c : Nat} (h : PS W gp gn nds c) : gp < W.heap.size ∧ gn < W.heap.size := let ⟨tl, h1, h2⟩ := h; ⟨h1.lt, h2.lt⟩
theorem PS.ptr {W : World} {gp gn : Nat} {nds : List NV} {c : Nat} (h : PS W gp gn nds c) : W.cell? ⟨gp, 0, none⟩ = some (.slice (some ⟨gn, 0, none⟩) nds.length c) := let ⟨tl, h1, h2⟩ := h; h1.at_ rfl
theorem fresh_can_nd (w : World) : canAt (w.alloc (Obj.cells ndz.cells.toArray 67)) ⟨w.heap.size, 0, none⟩ 67 = true := (Bk.new w 67 ndz.cells).can (by rw [NV.len ndz_ok]; omega)
def rgRes (x : List UInt8 × Bool × Nat) : Value := .tuple #[A8 x.1, .bool x.2.1, .bool (x.2.2 == 100)]
set_option maxRecDepth 100000 in
set_option maxHeartbeats 4000000 in
theorem rget_any (k : List UInt8) (hk : k.length = 32) (gp gn c : Nat) (nds : List NV) (hn : nds.length ≤ 1000000) (p : Pt) (hw : p.Wf) (hd : p.Dp 0) (hat : NAt nds 0 p) (w : World) (hs : PS w gp gn nds c) :
    Calls Try.prog 11 #[.pointer (some ⟨gp, 0, none⟩), A8 k] w fun e w' => e = .returned (rgRes (p.get k 0)) ∧ Below w.heap.size w w' := by
  obtain ⟨W0, hW0⟩ : ∃ y, y = (w.alloc (Obj.cells (c8 k).toArray 24)).alloc (Obj.cells (c8 (z8 32)).toArray 24) := ⟨_, rfl⟩
  have B0 : Below w.heap.size w W0 := by rw [hW0]; exact ((Below.refl _ _).alloc (Nat.le_refl _) _).alloc (by simp) _
  have K0 : Bk W0 w.heap.size 24 (c8 k) := by rw [hW0]; exact (Bk.new w _ _).alloc _
  have R0 : Bk W0 (w.heap.size + 1) 24 (c8 (z8 32)) := by rw [hW0]; simpa using Bk.new (w.alloc (Obj.cells (c8 k).toArray 24)) 24 (c8 (z8 32))
  have hs0 := hs.below B0
  obtain ⟨res, hres⟩ : ∃ r, r = p.get k 0 := ⟨_, rfl⟩
  rw [← hres]
  go_enter Try.func11, Try.ntmps11
  go_wp2_with fail
  rw [← hW0]
  clear hW0
  go_loopw [7, 8] (fun t7 t8 wr => ∃ (i d : Nat) (q : Pt), t7 = .int .i64 (i : Int) ∧ t8 = .int .i64 (d : Int) ∧ NAt nds i q ∧ q.Wf ∧ q.Dp d ∧ d ≤ 256 ∧ Hid (res = q.get k d) ∧ PS wr gp gn nds c ∧ Bk wr w.heap.size 24 (c8 k) ∧ Bk wr (w.heap.size + 1) 24 (c8 (z8 32)) ∧ Below w.heap.size w wr) (fun _ t8 _ => 256 - (intOf t8).toNat)
  case atStart => exact ⟨0, 0, p, rfl, rfl, hat, hw, hd, by omega, Lib.hid hres, hs0, K0, R0, B0⟩
  case round =>
    clear hs0 K0 R0 B0 hs hat hw hd hres
    obtain ⟨i, d, q, rfl, rfl, hat, hw, hd, hd6, hres, hs, K, R, B⟩ := hrel
    obtain ⟨w1, rfl⟩ : ∃ x, x = wr := ⟨_, rfl⟩
    obtain ⟨zp, zn⟩ := hs.lt
    have hp0 := hs.ptr
    obtain ⟨tl, hb, hnd⟩ := hs
    obtain ⟨x, hx, hxk⟩ := hat.some
    have hil : i < nds.length := (List.getElem?_eq_some_iff.1 hx).1
    have ck := hnd.kind hx
    rw [hxk] at ck
    have zk := K.lt
    have zr := R.lt
    have rk := K.row32_ hk
    cases q with
    | nd l r =>
      obtain ⟨x', a, b, hx', _, hl, hr, hatl, hatr⟩ := hat
      obtain rfl : x' = x := by rw [hx] at hx'; injection hx' with h; exact h.symm
      have cl := hnd.left hx
      have cr := hnd.right hx
      rw [hl] at cl
      rw [hr] at cr
      dsimp only [Pt.kind] at ck
      have hd1 := hd.1
      have hg2 : Hid (res = if kbit k d then r.get k (d + 1) else l.get k (d + 1)) := hres
      have B2 := Lib.hid B
      clear hx hxk hl hr hx' B hres
      go_wp2_with fail
      refine (refbit_any k d hk hd1 w1).mono ?_
      rintro e w2 ⟨rfl, b2⟩
      have hs2 : PS w2 gp gn nds c := ⟨tl, hb.below b2 zp, hnd.below b2 zn⟩
      have K2 := K.below b2 zk
      have R2 := R.below b2 zr
      have B3 := below_two B2.out b2 B2.out.size
      have hp2 := hs2.ptr
      have cl2 : w2.cell? ⟨gn, i * 67 + 65, none⟩ = some (.int .i64 (a : Int)) := (b2.cell zn).trans cl
      have cr2 : w2.cell? ⟨gn, i * 67 + 66, none⟩ = some (.int .i64 (b : Int)) := (b2.cell zn).trans cr
      clear B2 b2 K R hb hnd hp0 ck cl cr
      have hli : (i : Int) < (nds.length : Int) := by omega
      cases hb : kbit k d
      · simp only [bitInt]
        go_wp2_with fail
        go_roundw
        case rel => exact ⟨a, d + 1, l, rfl, by go_num, hatl, hw.1, hd.2.1, by omega, Lib.hid (by have := hg2.out; rw [hb] at this; exact this), hs2, K2, R2, B3⟩
        case measure => simp [intOf]; omega
      · simp only [bitInt]
        go_wp2_with fail
        go_roundw
        case rel => exact ⟨b, d + 1, r, rfl, by go_num, hatr, hw.2, hd.2.2, by omega, Lib.hid (by have := hg2.out; rw [hb] at this; exact this), hs2, K2, R2, B3⟩
        case measure => simp [intOf]; omega
    | e =>
      have hxok := hnd.1 x (List.mem_of_getElem? hx)
      have hxl := NV.len hxok
      have hxr := hnd.row hx
      have RES := Lib.hid hres.out
      have hli : (i : Int) < (nds.length : Int) := by omega
      dsimp only [Pt.kind] at ck hxk
      obtain ⟨W2, hW2⟩ : ∃ y, y = putAt (w1.alloc (Obj.cells ndz.cells.toArray 67)) ⟨w1.heap.size, 0, none⟩ x.cells := ⟨_, rfl⟩
      have b2 : Below w1.heap.size w1 W2 := by rw [hW2]; exact below_putAt ((Below.refl _ _).alloc (Nat.le_refl _) _) (Nat.le_refl _) _
      have N2 : ND W2 w1.heap.size [x] [] := ⟨by simpa using hxok, by rw [hW2]; simpa [nflat] using (Bk.new w1 67 ndz.cells).puts (vs := x.cells) (by rw [hxl, NV.len ndz_ok])⟩
      have n0 := N2.kind (i := 0) (x := x) rfl
      have n1 := N2.key (i := 0) (x := x) rfl
      have n2 := N2.value (i := 0) (x := x) rfl
      simp only [Nat.zero_mul, Nat.zero_add] at n0 n1 n2
      rw [hxk] at n0
      have kc := fresh_can_nd w1
      have K2 := K.below b2 zk
      have R2 := R.below b2 zr
      have B2 := below_two B b2 B.size
      have rk2 := K2.row32_ hk
      have hcan : canAt W2 ⟨w.heap.size + 1, 0, none⟩ 32 = true := R2.can (by simp)
      rw [hW2] at n0 n1 n2 rk2 hcan
      clear hx hb hnd hres B
      go_wp2_with fail
      rw [← hW2]
      refine bodyPost_ret (results_three rfl (ResAt.row (R2.puts (vs := c8 (z8 32)) (by simp)) rfl _ Try.underlying24 rfl (by simp [info_h32])) (ResAt.tmp rfl) (ResAt.tmp rfl)) rfl ⟨?_, below_putAt B2 (by simp) _⟩
      rw [RES.out]
      rfl
    | lf a b =>
      obtain ⟨x', hx', _, hxa, hxb⟩ := hat
      obtain rfl : x = x' := by rw [hx] at hx'; injection hx'
      clear hx'
      have hxok := hnd.1 x (List.mem_of_getElem? hx)
      have hxl := NV.len hxok
      have hxr := hnd.row hx
      have RES := Lib.hid hres.out
      have hli : (i : Int) < (nds.length : Int) := by omega
      dsimp only [Pt.kind] at ck hxk
      obtain ⟨W2, hW2⟩ : ∃ y, y = putAt (w1.alloc (Obj.cells ndz.cells.toArray 67)) ⟨w1.heap.size, 0, none⟩ x.cells := ⟨_, rfl⟩
      have b2 : Below w1.heap.size w1 W2 := by rw [hW2]; exact below_putAt ((Below.refl _ _).alloc (Nat.le_refl _) _) (Nat.le_refl _) _
      have N2 : ND W2 w1.heap.size [x] [] := ⟨by simpa using hxok, by rw [hW2]; simpa [nflat] using (Bk.new w1 67 ndz.cells).puts (vs := x.cells) (by rw [hxl, NV.len ndz_ok])⟩
      have n0 := N2.kind (i := 0) (x := x) rfl
      have n1 := N2.key (i := 0) (x := x) rfl
      have n2 := N2.value (i := 0) (x := x) rfl
      simp only [Nat.zero_mul, Nat.zero_add] at n0 n1 n2
      rw [hxk] at n0
      have kc := fresh_can_nd w1
      have K2 := K.below b2 zk
      have R2 := R.below b2 zr
      have B2 := below_two B b2 B.size
      have rk2 := K2.row32_ hk
      have hcan : canAt W2 ⟨w.heap.size + 1, 0, none⟩ 32 = true := R2.can (by simp)
      rw [hW2] at n0 n1 n2 rk2 hcan
      clear hx hb hnd hres B
      rw [hxa] at n1
      rw [hxb] at n2
      have ha := hw.1
      have hb' := hw.2
      by_cases hak : a = k
      · have hab : (a == k) = true := by simp [hak]
        go_wp2_with fail
        rw [← hW2]
        refine bodyPost_ret (results_three rfl (ResAt.row (R2.puts (vs := c8 b) (by simp [hb'])) rfl _ Try.underlying24 rfl (by simp [info_h32, hb'])) (ResAt.tmp rfl) (ResAt.tmp rfl)) rfl ⟨?_, below_putAt B2 (by simp) _⟩
        rw [RES.out]
        simp only [Pt.get, hak, if_true]
        rfl
      · have hab : (a == k) = false := by simp [hak]
        go_wp2_with fail
        rw [← hW2]
        refine bodyPost_ret (results_three rfl (ResAt.row (R2.puts (vs := c8 (z8 32)) (by simp)) rfl _ Try.underlying24 rfl (by simp [info_h32])) (ResAt.tmp rfl) (ResAt.tmp rfl)) rfl ⟨?_, below_putAt B2 (by simp) _⟩
        rw [RES.out]
        simp only [Pt.get, hak, if_false]
        rfl
    | hd h =>
      obtain ⟨x', hx', _, hxb⟩ := hat
      obtain rfl : x = x' := by rw [hx] at hx'; injection hx'
      clear hx'
      have hxok := hnd.1 x (List.mem_of_getElem? hx)
      have hxl := NV.len hxok
      have hxr := hnd.row hx
      have RES := Lib.hid hres.out
      have hli : (i : Int) < (nds.length : Int) := by omega
      dsimp only [Pt.kind] at ck hxk
      obtain ⟨W2, hW2⟩ : ∃ y, y = putAt (w1.alloc (Obj.cells ndz.cells.toArray 67)) ⟨w1.heap.size, 0, none⟩ x.cells := ⟨_, rfl⟩
      have b2 : Below w1.heap.size w1 W2 := by rw [hW2]; exact below_putAt ((Below.refl _ _).alloc (Nat.le_refl _) _) (Nat.le_refl _) _
      have N2 : ND W2 w1.heap.size [x] [] := ⟨by simpa using hxok, by rw [hW2]; simpa [nflat] using (Bk.new w1 67 ndz.cells).puts (vs := x.cells) (by rw [hxl, NV.len ndz_ok])⟩
      have n0 := N2.kind (i := 0) (x := x) rfl
      have n1 := N2.key (i := 0) (x := x) rfl
      have n2 := N2.value (i := 0) (x := x) rfl
      simp only [Nat.zero_mul, Nat.zero_add] at n0 n1 n2
      rw [hxk] at n0
      have kc := fresh_can_nd w1
      have K2 := K.below b2 zk
      have R2 := R.below b2 zr
      have B2 := below_two B b2 B.size
      have rk2 := K2.row32_ hk
      have hcan : canAt W2 ⟨w.heap.size + 1, 0, none⟩ 32 = true := R2.can (by simp)
      rw [hW2] at n0 n1 n2 rk2 hcan
      clear hx hb hnd hres B
      go_wp2_with fail
      rw [← hW2]
      refine bodyPost_ret (results_three rfl (ResAt.row (R2.puts (vs := c8 (z8 32)) (by simp)) rfl _ Try.underlying24 rfl (by simp [info_h32])) (ResAt.tmp rfl) (ResAt.tmp rfl)) rfl ⟨?_, below_putAt B2 (by simp) _⟩
      rw [RES.out]
      rfl
end Go.Proofs.Ytlegpkdighoflaa
