/- Tree.Leaf; witanlaw09.listed. -/
import Derived.Test.YtlegpkdighoflaaSame
import Derived.Outline
set_option linter.unusedVariables false
set_option linter.unusedSimpArgs false
namespace Go.Proofs.Ytlegpkdighoflaa
open Go Go.RowKit Sh
attribute [local go_sem] Oper.semAt_some
theorem liftIn {F : Fence} {n : Nat} {P : Program} {ops : Array Oper} {Q : Exit → Act → World → Prop} {o : Oper} {rest : List Oper} {a : Act} {w : World} (hF : Free F) (hg : o.guard = none) (hd : ∀ c, o.op ≠ .defer c)
    (h : ∀ Q' : Exit → Act → World → Prop, (∀ a' w', wpListIn F n P ops Q rest a' w' → Q' .normal a' w') → wpList P #[o] Q' [o] a w) : wpListIn F n P ops Q (o :: rest) a w := by
  have h1 := h (fun e a' w' => e = .normal ∧ wpListIn F n P ops Q rest a' w') (fun a' w' h1 => ⟨rfl, h1⟩)
  unfold wpList at h1
  rw [if_pos (by simp [Region.wanted, hg])] at h1
  unfold wpListIn
  rw [if_pos (by simp [Region.wanted, hg])]
  rcases h1 with h1 | ⟨_, a, w, h2, _⟩
  · exact wpIn_mono2 (fun a' w' h2 => h2.2) (fun e a' w' hne h2 => (hne h2.1).elim) (lift_wp hF hd h1)
  · cases h2
set_option maxRecDepth 100000 in
set_option maxHeartbeats 2000000 in
theorem tleaf_no (t : Tr) (p : Value) (d : Int) (w : World) (h : At w w.heap.size t p) (hl : t.len ≠ 1) :
    Calls Try.prog 39 #[.agg #[p, .int .i64 d]] w fun e w' => e = .returned (.tuple #[A8 (z8 32), A8 (z8 32), .bool false]) ∧ Below w.heap.size w w' := by
  obtain ⟨ap, rfl⟩ := h.form
  have hne : ((t.len : Int) != 1) = true := by rw [bne_iff_ne]; omega
  go_enter Try.func39, Try.ntmps39
  go_wp2_with fail
  obtain ⟨w0, hw0⟩ : ∃ x, x = ((w.alloc (Obj.cells #[.pointer ap, .int .i64 d] 50)).alloc (Obj.cells (c8 (z8 32)).toArray 24)).alloc (Obj.cells (c8 (z8 32)).toArray 24) := ⟨_, rfl⟩
  rw [← hw0]
  have B0 : Below w.heap.size w w0 := by rw [hw0]; exact (((Below.refl _ _).alloc (Nat.le_refl _) _).alloc (by simp) _).alloc (by simp; omega) _
  have L0 : Bk w0 (w.heap.size + 1) 24 (c8 (z8 32)) := by rw [hw0]; exact (by simpa using Bk.new (w.alloc (Obj.cells #[.pointer ap, .int .i64 d] 50)) 24 (c8 (z8 32)) : Bk _ _ _ _).alloc _
  have R0 : Bk w0 (w.heap.size + 1 + 1) 24 (c8 (z8 32)) := by rw [hw0]; simpa using Bk.new ((w.alloc (Obj.cells #[.pointer ap, .int .i64 d] 50)).alloc (Obj.cells (c8 (z8 32)).toArray 24)) 24 (c8 (z8 32))
  clear hw0
  refine (tlen_any t _ d w0 ((h.below B0).more B0.size)).mono ?_
  rintro e w1 ⟨rfl, h1⟩
  have L1 := L0.below h1 L0.lt
  have R1 := R0.below h1 R0.lt
  have B1 := below_two B0 h1 B0.size
  have hcl : canAt w1 ⟨w.heap.size + 1, 0, none⟩ 32 = true := L1.can (by simp)
  have hcr : canAt w1 ⟨w.heap.size + 1 + 1, 0, none⟩ 32 = true := R1.can (by simp)
  go_wp2_with fail
  have La := (L1.puts (vs := c8 (z8 32)) (by simp)).putFar (p := ⟨w.heap.size + 1 + 1, 0, none⟩) (by simp) (c8 (z8 32))
  have Ra := (R1.putFar (p := ⟨w.heap.size + 1, 0, none⟩) (by simp) (c8 (z8 32))).puts (vs := c8 (z8 32)) (by simp)
  exact bodyPost_ret (results_three rfl (ResAt.row La rfl _ Try.underlying24 rfl (by simp [info_h32])) (ResAt.row Ra rfl _ Try.underlying24 rfl (by simp [info_h32])) (ResAt.tmp rfl)) rfl
    ⟨rfl, below_putAt (below_putAt B1 (by simp) _) (by simp; omega) _⟩
set_option maxRecDepth 100000 in
set_option maxHeartbeats 2000000 in
theorem tleaf_yes (k v : List UInt8) (p : Value) (d : Int) (w : World) (h : At w w.heap.size (.lf k v) p) :
    Calls Try.prog 39 #[.agg #[p, .int .i64 d]] w fun e w' => e = .returned (.tuple #[A8 k, A8 v, .bool true]) ∧ Below w.heap.size w w' := by
  have hat := h
  obtain ⟨g, rfl, hg, hk, hv, hb⟩ := h
  go_enter Try.func39, Try.ntmps39
  go_wp2_with fail
  obtain ⟨w0, hw0⟩ : ∃ x, x = ((w.alloc (Obj.cells #[.pointer (some ⟨g, 0, none⟩), .int .i64 d] 50)).alloc (Obj.cells (c8 (z8 32)).toArray 24)).alloc (Obj.cells (c8 (z8 32)).toArray 24) := ⟨_, rfl⟩
  rw [← hw0]
  have B0 : Below w.heap.size w w0 := by rw [hw0]; exact (((Below.refl _ _).alloc (Nat.le_refl _) _).alloc (by simp) _).alloc (by simp; omega) _
  have T0 : Bk w0 w.heap.size 50 [.pointer (some ⟨g, 0, none⟩), .int .i64 d] := by rw [hw0]; exact ((Bk.new w _ [.pointer (some ⟨g, 0, none⟩), .int .i64 d]).alloc _).alloc _
  have L0 : Bk w0 (w.heap.size + 1) 24 (c8 (z8 32)) := by rw [hw0]; exact (by simpa using Bk.new (w.alloc (Obj.cells #[.pointer (some ⟨g, 0, none⟩), .int .i64 d] 50)) 24 (c8 (z8 32)) : Bk _ _ _ _).alloc _
  have R0 : Bk w0 (w.heap.size + 1 + 1) 24 (c8 (z8 32)) := by rw [hw0]; simpa using Bk.new ((w.alloc (Obj.cells #[.pointer (some ⟨g, 0, none⟩), .int .i64 d] 50)).alloc (Obj.cells (c8 (z8 32)).toArray 24)) 24 (c8 (z8 32))
  clear hw0
  refine (tlen_any (.lf k v) _ d w0 ((hat.below B0).more B0.size)).mono ?_
  rintro e w1 ⟨rfl, h1⟩
  have T1 := T0.below h1 T0.lt
  have L1 := L0.below h1 L0.lt
  have R1 := R0.below h1 R0.lt
  have B1 := below_two B0 h1 B0.size
  have N1 := hb.below B1 hg
  have z1 := R1.lt
  dsimp only [Tr.len]
  clear h1 hat hb T0 L0 R0 B0
  go_wp2_with fail
  refine wp_hoist (A := ?A) (fun W => Below (w.heap.size + 1) w1 W) [0, 1, 2, 3, 4, 5, 6, 7, 8, 9] [10, 11, 12] (by kernel_rfl) (by kernel_rfl) (by kernel_rfl) (by kernel_rfl) rfl rfl (by kernel_rfl) (by kernel_rfl) ?rS (fun W hW => ?rh) (fun hS => ?rt)
  case rS => exact (Below.refl _ _).drew
  case rh =>
    have T2 := T1.below hW (by omega)
    have N2 := N1.below hW (by omega)
    have c0 : W.cell? ⟨w.heap.size, 0, none⟩ = some (.pointer (some ⟨g, 0, none⟩)) := T2.at_ rfl
    have hkk := node_key N2 hk
    have hvv := node_value N2 hk hv
    clear T2 N2
    simp only [pick, List.getElem?_cons_zero, List.getElem?_cons_succ]
    repeat (go_big_quiet_step (fail))
    refine wpQuiet_nil ?_
    rfl
  case rt =>
    simp only [pick, List.getElem?_cons_zero, List.getElem?_cons_succ]
    have S1 : Below (w.heap.size + 1) w1 w1.drew := (Below.refl _ _).drew
    have hcl : canAt w1.drew ⟨w.heap.size + 1, 0, none⟩ 32 = true := L1.can (by simp)
    have hcr : canAt w1.drew ⟨w.heap.size + 1 + 1, 0, none⟩ 32 = true := R1.can (by simp)
    refine wpTail_step (by rfl) (fun Q' hQ' => ?_)
    go_wp2_with fail
    have S2 := below_putAt S1 (a := ⟨w.heap.size + 1, 0, none⟩) (by simp) (c8 k)
    refine hQ' _ _ S2 ?_
    clear hQ'
    refine wpTail_step (by rfl) (fun Q' hQ' => ?_)
    go_wp2_with fail
    have S3 := below_putAt S2 (a := ⟨w.heap.size + 1 + 1, 0, none⟩) (by simp) (c8 v)
    refine hQ' _ _ S3 ?_
    clear hQ'
    refine wpTail_step (by rfl) (fun Q' hQ' => ?_)
    go_wp2_with fail
    refine hQ' _ _ S3 ?_
    clear hQ'
    refine wpTail_nil ?_
    go_wp2_with fail
    have La := (L1.drew.puts (vs := c8 k) (by simp [hk])).putFar (p := ⟨w.heap.size + 1 + 1, 0, none⟩) (by simp) (c8 v)
    have Ra := (R1.drew.putFar (p := ⟨w.heap.size + 1, 0, none⟩) (by simp) (c8 k)).puts (vs := c8 v) (by simp [hv])
    exact bodyPost_ret (results_three rfl (ResAt.row La rfl _ Try.underlying24 rfl (by simp [info_h32, hk])) (ResAt.row Ra rfl _ Try.underlying24 rfl (by simp [info_h32, hv])) (ResAt.tmp rfl)) rfl
      ⟨rfl, below_putAt (below_putAt B1.drew (by simp) _) (by simp; omega) _⟩
def Kd2 (W : World) (row : Option Nat) (T : TypeId) : Prop := ∀ g, row = some g → ∃ cur fz, W.heap[g]? = some (.cells cur T fz)
theorem kd2_own {W : World} {base : Nat} {e : TypeId} {sz n : Nat} {v : Value} {xs : List Value} (h : W.ownsRow base e sz v n xs) : Kd2 W v.ownBlock e := by
  intro g hg
  rcases h.2 with ⟨rfl, _⟩ | ⟨g', cap, cur, rfl, _, hh, _⟩
  · cases hg
  · injection hg with hg; subst hg; exact ⟨_, _, hh⟩
end Go.Proofs.Ytlegpkdighoflaa
