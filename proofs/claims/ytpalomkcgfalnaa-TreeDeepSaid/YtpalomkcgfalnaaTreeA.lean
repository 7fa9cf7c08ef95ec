/- The tree package's small functions. -/
import Derived.Test.YtpalomkcgfalnaaTree
import Derived.Lib.Hide
import Derived.Outline
set_option linter.unusedVariables false
set_option linter.unusedSimpArgs false
namespace Go.Proofs.Ytpalomkcgfalnaa
open Go Go.RowKit Sh
theorem below_two {B : Nat} {a b c : World} (h : Below B a b) (h2 : Below b.heap.size b c) (hB : B ≤ b.heap.size) : Below B a c := h.trans (h2.mono hB)
set_option maxRecDepth 100000 in
set_option maxHeartbeats 1000000 in
theorem leaf_any (k v : List UInt8) (hk : k.length = 32) (hv : v.length = 32) (w : World) :
    Calls Try.prog 74 #[A8 k, A8 v] w fun e w' => ∃ p, e = .returned p ∧ At w' w'.heap.size (.lf k v) p ∧ Below w.heap.size w w' := by
  go_enter Try.func74, Try.ntmps74
  go_wp2
  obtain ⟨w0, hw0⟩ : ∃ x, x = (w.alloc (.cells (c8 k).toArray 25)).alloc (.cells (c8 v).toArray 25) := ⟨_, rfl⟩
  rw [← hw0]
  have B0 : Below w.heap.size w w0 := by rw [hw0]; exact ((Below.refl _ _).alloc (Nat.le_refl _) _).alloc (by simp) _
  have K0 : Bk w0 w.heap.size 25 (c8 k) := by rw [hw0]; exact (Bk.new _ _ _).alloc _
  have V0 : Bk w0 (w.heap.size + 1) 25 (c8 v) := by rw [hw0]; have := Bk.new (w.alloc (.cells (c8 k).toArray 25)) 25 (c8 v); simpa using this
  have z0 := V0.lt
  clear hw0
  refine wp_hoist (A := ?A) (fun W => Below w0.heap.size w0 W) [0, 1, 3, 4] [2, 5, 6, 7, 8, 9] (by kernel_rfl) (by kernel_rfl) (by kernel_rfl) (by kernel_rfl) rfl rfl (by kernel_rfl) (by kernel_rfl) ?hS (fun W hW => ?h) (fun hS => ?t)
  case hS => exact (Below.refl _ _).drew
  case h =>
    have r1 := (K0.below hW (by omega)).rows
    have r2 := (V0.below hW (by omega)).rows
    rw [length_c8, hk] at r1
    rw [length_c8, hv] at r2
    simp only [pick, List.getElem?_cons_zero, List.getElem?_cons_succ]
    repeat (go_big_quiet_step (fail))
    refine wpQuiet_nil ?_
    rfl
  case t =>
    simp only [pick, List.getElem?_cons_zero, List.getElem?_cons_succ]
    refine wpTail_step (by rfl) (fun Q' hQ' => ?_)
    go_wp2
    obtain ⟨w1, hw1⟩ : ∃ x, x = (w0.alloc (Obj.cells #[Value.int IntKind.u8 0] 5)).drew := ⟨_, rfl⟩
    rw [← hw1]
    have B1 : Below w0.heap.size w0 w1 := by rw [hw1]; exact ((Below.refl _ _).alloc (Nat.le_refl _) _).drew
    have y0 : By w1 0 w1.heap.size (.slice (some ⟨w0.heap.size, 0, none⟩) 1 1) [0] := by rw [hw1]; exact (By.build w0 5 (0, 0) [0] (by simp)).more (by simp)
    refine hQ' _ _ B1 ?_
    clear hw1 hQ' hS
    refine wpTail_step (by rfl) (fun Q' hQ' => ?_)
    go_wp2
    obtain ⟨w2, hw2⟩ : ∃ x, x = w1.alloc (Obj.cells #[.slice (some ⟨w0.heap.size, 0, none⟩) 1 1, .slice (some ⟨w.heap.size, 0, none⟩) 32 32, .slice (some ⟨w.heap.size + 1, 0, none⟩) 32 32] 22) := ⟨_, rfl⟩
    rw [← hw2]
    have B2 : Below w0.heap.size w0 w2 := by rw [hw2]; exact B1.alloc B1.size _
    have yk : By w1 0 w1.heap.size (.slice (some ⟨w.heap.size, 0, none⟩) 32 32) k := (K0.below B1 (by omega)).whole 32 hk (by omega)
    have yv : By w1 0 w1.heap.size (.slice (some ⟨w.heap.size + 1, 0, none⟩) 32 32) v := (V0.below B1 (by omega)).whole 32 hv (by omega)
    have p2 : Parts w2 w2.heap.size (.slice (some ⟨w1.heap.size, 0, none⟩) 3 3) [[0], k, v] := by
      rw [hw2]
      have := Parts.three w1 22 _ _ _ _ _ _ y0 yk yv
      simpa using this
    refine hQ' _ _ B2 ?_
    clear hw2 hQ' y0 yk yv
    refine wpTail_step (by rfl) (fun Q' hQ' => ?_)
    go_wp2_with fail
    refine (sum256_any _ [[0], k, v] w2 p2 (by simp [hk, hv])).mono ?_
    rintro e w3 ⟨rfl, hb3⟩
    have B3 := below_two B2 hb3 B2.size
    have hroot : [[0], k, v].flatten = [0] ++ k ++ v := by simp
    rw [hroot]
    have hl := length_sum32 ([0] ++ k ++ v)
    generalize hr : sum32 ([0] ++ k ++ v) = r at *
    have Hr := Lib.hid hr
    clear hr hb3 p2 hroot
    go_wp2_with fail
    refine hQ' _ _ B3 ?_
    clear hQ'
    refine wpTail_step (by rfl) (fun Q' hQ' => ?_)
    go_wp2_with fail
    refine hQ' _ _ B3 ?_
    clear hQ'
    refine wpTail_step (by rfl) (fun Q' hQ' => ?_)
    go_wp2_with fail
    refine hQ' _ _ (B3.alloc B3.size _) ?_
    clear hQ'
    refine wpTail_step (by rfl) (fun Q' hQ' => ?_)
    go_wp2_with fail
    refine hQ' _ _ (B3.alloc B3.size _) ?_
    clear hQ'
    refine wpTail_nil ?_
    go_wp2_with fail
    go_ret
    refine ⟨_, rfl, ⟨_, rfl, by simp, hk, hv, ?_⟩, (below_two B0 B3 B0.size).alloc (below_two B0 B3 B0.size).size _⟩
    rw [show (Tr.lf k v).root = r from Hr.out]
    exact Bk.new _ _ _

theorem root_any (t : Tr) (p : Value) (w : World) (h : At w w.heap.size t p) :
    Calls Try.prog 58 #[p] w fun e w' => e = .returned (A8 t.root) ∧ Below w.heap.size w w' := by
  cases t with
  | e =>
    obtain rfl : p = .pointer none := h
    go_enter Try.func58, Try.ntmps58
    go_wp2
    exact bodyPost_ret (results_row rfl _ _ _ _ _ _ rfl ((Bk.new w _ _).puts (vs := c8 (z8 32)) (by simp)) Try.underlying25 rfl (by simp [info_h32])) rfl ⟨rfl, below_putAt ((Below.refl _ _).alloc (Nat.le_refl _) _) (Nat.le_refl _) _⟩
  | lf k v =>
    obtain ⟨g, rfl, hg, hk, hv, hb⟩ := h
    have hl := Tr.root_length (Tr.lf k v)
    generalize (Tr.lf k v).root = r at *
    have hc := node_hash hb hk hv hl
    clear hb
    go_enter Try.func58, Try.ntmps58
    go_wp2
    exact bodyPost_ret (results_row rfl _ _ _ _ _ _ rfl ((Bk.new w _ _).puts (vs := c8 r) (by simp [hl])) Try.underlying25 rfl (by simp [info_h32, hl])) rfl ⟨rfl, below_putAt ((Below.refl _ _).alloc (Nat.le_refl _) _) (Nat.le_refl _) _⟩
  | nd l r =>
    obtain ⟨g, pl, pr, rfl, hg, hb, _, _⟩ := h
    have hl := Tr.root_length (Tr.nd l r)
    generalize (Tr.nd l r).root = r at *
    have hc := node_hash hb (length_z8 32) (length_z8 32) hl
    clear hb
    go_enter Try.func58, Try.ntmps58
    go_wp2
    exact bodyPost_ret (results_row rfl _ _ _ _ _ _ rfl ((Bk.new w _ _).puts (vs := c8 r) (by simp [hl])) Try.underlying25 rfl (by simp [info_h32, hl])) rfl ⟨rfl, below_putAt ((Below.refl _ _).alloc (Nat.le_refl _) _) (Nat.le_refl _) _⟩
theorem len_any (t : Tr) (p : Value) (w : World) (B : Nat) (h : At w B t p) :
    Calls Try.prog 60 #[p] w fun e w' => e = .returned (.int .i64 (t.len : Int)) ∧ w' = w := by
  cases t with
  | e =>
    obtain rfl : p = .pointer none := h
    go_enter Try.func60, Try.ntmps60
    go_wp2
    go_ret
    exact ⟨rfl, rfl⟩
  | lf k v =>
    obtain ⟨g, rfl, _, hk, hv, hb⟩ := h
    have hc := node_count hb hk hv (Tr.root_length _)
    clear hb
    go_enter Try.func60, Try.ntmps60
    go_wp2
    go_ret
    exact ⟨rfl, rfl⟩
  | nd l r =>
    obtain ⟨g, pl, pr, rfl, _, hb, _, _⟩ := h
    have hc := node_count hb (length_z8 32) (length_z8 32) (Tr.root_length _)
    clear hb
    go_enter Try.func60, Try.ntmps60
    go_wp2
    go_ret
    exact ⟨by simp [Tr.len], rfl⟩
set_option maxRecDepth 100000 in
set_option maxHeartbeats 1000000 in
theorem inner_any (l r : Tr) (pl pr : Value) (hn : l.len + r.len ≤ 1099511627776) (w : World) (hl : At w w.heap.size l pl) (hr : At w w.heap.size r pr) :
    Calls Try.prog 75 #[pl, pr] w fun e w' => ∃ p, e = .returned p ∧ At w' w'.heap.size (.nd l r) p ∧ Below w.heap.size w w' := by
  obtain ⟨al, rfl⟩ := hl.form
  obtain ⟨ar, rfl⟩ := hr.form
  have hll := Tr.root_length l
  have hlr := Tr.root_length r
  have hroot : (Tr.nd l r).root = sum32 ([1] ++ l.root ++ r.root) := rfl
  have Hroot := Lib.hid hroot
  clear hroot
  go_enter Try.func75, Try.ntmps75
  go_wp2_with fail
  refine (root_any l _ w hl).mono ?_
  rintro e wa ⟨rfl, ba⟩
  have hra := (hr.below ba).more ba.size
  go_wp2_with fail
  refine (root_any r _ wa hra).mono ?_
  rintro e wb ⟨rfl, bb⟩
  have Bb := below_two ba bb ba.size
  clear ba bb hra
  generalize l.root = rl at *
  generalize r.root = rr at *
  go_wp2_with fail
  obtain ⟨w0, hw0⟩ : ∃ x, x = putAt (putAt ((wb.alloc (Obj.cells (c8 (z8 32)).toArray 25)).alloc (Obj.cells (c8 (z8 32)).toArray 25)) ⟨wb.heap.size, 0, none⟩ (c8 rl)) ⟨wb.heap.size + 1, 0, none⟩ (c8 rr) := ⟨_, rfl⟩
  rw [← hw0]
  have B0 : Below w.heap.size w w0 := by rw [hw0]; have := Bb.size; exact below_putAt (below_putAt ((Bb.alloc Bb.size _).alloc (by simp; omega) _) (by exact Bb.size) _) (by simp; omega) _
  have K0 : Bk w0 wb.heap.size 25 (c8 rl) := by rw [hw0]; exact (((Bk.new wb _ _).alloc _).puts (by simp [hll])).putFar (by simp) _
  have V0 : Bk w0 (wb.heap.size + 1) 25 (c8 rr) := by
    rw [hw0]
    have := (Bk.new (wb.alloc (Obj.cells (c8 (z8 32)).toArray 25)) 25 (c8 (z8 32))).putFar (p := ⟨wb.heap.size, 0, none⟩) (by simp) (c8 rl)
    exact Bk.puts (by simpa using this) (by simp [hlr])
  have z0 := V0.lt
  generalize wb.heap.size = gb at *
  clear hw0 Bb
  have hll0 := (hl.below B0).more B0.size
  have hlr0 := (hr.below B0).more B0.size
  refine wp_hoist (A := ?A) (fun W => Below w0.heap.size w0 W) [0, 1, 3, 4, 7, 9] [2, 5, 6, 8, 10, 11, 12, 13, 14] (by kernel_rfl) (by kernel_rfl) (by kernel_rfl) (by kernel_rfl) rfl rfl (by kernel_rfl) (by kernel_rfl) ?hS (fun W hW => ?h) (fun hS => ?t)
  case hS => exact (Below.refl _ _).drew
  case h =>
    simp only [pick, List.getElem?_cons_zero, List.getElem?_cons_succ]
    repeat (go_big_quiet_step (fail))
    refine wpQuiet_nil ?_
    rfl
  case t =>
    simp only [pick, List.getElem?_cons_zero, List.getElem?_cons_succ]
    refine wpTail_step (by rfl) (fun Q' hQ' => ?_)
    go_wp2
    obtain ⟨w1, hw1⟩ : ∃ x, x = (w0.alloc (Obj.cells #[Value.int IntKind.u8 1] 5)).drew := ⟨_, rfl⟩
    rw [← hw1]
    have B1 : Below w0.heap.size w0 w1 := by rw [hw1]; exact ((Below.refl _ _).alloc (Nat.le_refl _) _).drew
    have y0 : By w1 0 w1.heap.size (.slice (some ⟨w0.heap.size, 0, none⟩) 1 1) [1] := by rw [hw1]; exact (By.build w0 5 (0, 0) [1] (by simp)).more (by simp)
    refine hQ' _ _ B1 ?_
    clear hw1 hQ' hS
    refine wpTail_step (by rfl) (fun Q' hQ' => ?_)
    go_wp2
    obtain ⟨w2, hw2⟩ : ∃ x, x = w1.alloc (Obj.cells #[.slice (some ⟨w0.heap.size, 0, none⟩) 1 1, .slice (some ⟨gb, 0, none⟩) 32 32, .slice (some ⟨gb + 1, 0, none⟩) 32 32] 22) := ⟨_, rfl⟩
    rw [← hw2]
    have B2 : Below w0.heap.size w0 w2 := by rw [hw2]; exact B1.alloc B1.size _
    have yk : By w1 0 w1.heap.size (.slice (some ⟨gb, 0, none⟩) 32 32) rl := (K0.below B1 (by omega)).whole 32 hll (by omega)
    have yv : By w1 0 w1.heap.size (.slice (some ⟨gb + 1, 0, none⟩) 32 32) rr := (V0.below B1 (by omega)).whole 32 hlr (by omega)
    have p2 : Parts w2 w2.heap.size (.slice (some ⟨w1.heap.size, 0, none⟩) 3 3) [[1], rl, rr] := by
      rw [hw2]
      have := Parts.three w1 22 _ _ _ _ _ _ y0 yk yv
      simpa using this
    refine hQ' _ _ B2 ?_
    clear hw2 hQ' y0 yk yv
    refine wpTail_step (by rfl) (fun Q' hQ' => ?_)
    go_wp2_with fail
    refine (sum256_any _ [[1], rl, rr] w2 p2 (by simp [hll, hlr])).mono ?_
    rintro e w3 ⟨rfl, hb3⟩
    have B3 := below_two B2 hb3 B2.size
    have hroot : [[1], rl, rr].flatten = [1] ++ rl ++ rr := by simp
    rw [hroot]
    have hlen := length_sum32 ([1] ++ rl ++ rr)
    rw [← Hroot.out] at hlen ⊢
    generalize hrt : (Tr.nd l r).root = rt at *
    have Hr := Lib.hid hrt
    clear hrt hb3 p2 hroot Hroot
    go_wp2_with fail
    refine hQ' _ _ B3 ?_
    clear hQ'
    have hal := (hll0.below B3).more B3.size
    have har := (hlr0.below B3).more B3.size
    refine wpTail_step (by rfl) (fun Q' hQ' => ?_)
    go_wp2_with fail
    refine (len_any l _ w3 _ hal).mono ?_
    rintro e w4 ⟨rfl, h4⟩
    rw [h4]
    clear h4 w4
    go_wp2_with fail
    refine hQ' _ _ B3 ?_
    clear hQ'
    refine wpTail_step (by rfl) (fun Q' hQ' => ?_)
    go_wp2_with fail
    refine (len_any r _ w3 _ har).mono ?_
    rintro e w4 ⟨rfl, h4⟩
    rw [h4]
    clear h4 w4
    go_wp2_with fail
    refine hQ' _ _ B3 ?_
    clear hQ'
    refine wpTail_step (by rfl) (fun Q' hQ' => ?_)
    go_wp2_with fail
    refine hQ' _ _ B3 ?_
    clear hQ'
    refine wpTail_step (by rfl) (fun Q' hQ' => ?_)
    go_wp2_with fail
    refine hQ' _ _ B3 ?_
    clear hQ'
    refine wpTail_step (by rfl) (fun Q' hQ' => ?_)
    go_wp2_with fail
    refine hQ' _ _ (B3.alloc B3.size _) ?_
    clear hQ'
    refine wpTail_step (by rfl) (fun Q' hQ' => ?_)
    go_wp2_with fail
    refine hQ' _ _ (B3.alloc B3.size _) ?_
    clear hQ'
    refine wpTail_nil ?_
    go_wp2_with fail
    go_ret
    have Bl := (Below.refl w3.heap.size w3).alloc (Nat.le_refl _) (Obj.cells (nodeCells (z8 32) (z8 32) (.pointer al) (.pointer ar) rt ((l.len : Int) + r.len)).toArray 112)
    refine ⟨_, rfl, ⟨_, _, _, rfl, by simp, ?_, (hal.below Bl).more (by simp), (har.below Bl).more (by simp)⟩, (below_two B0 B3 B0.size).alloc (below_two B0 B3 B0.size).size _⟩
    rw [Hr.out]
    exact Bk.new _ _ _
end Go.Proofs.Ytpalomkcgfalnaa
