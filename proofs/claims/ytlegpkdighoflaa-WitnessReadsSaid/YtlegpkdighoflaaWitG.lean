/- witness.Cut and Part.Put. -/
import Derived.Test.YtlegpkdighoflaaWitF
set_option linter.unusedVariables false
set_option linter.unusedSimpArgs false
namespace Go.Proofs.Ytlegpkdighoflaa
open Go Go.RowKit Sh
set_option maxRecDepth 100000 in
theorem pcut_any (t : Tr) (P : Nat → Bool) (ok : Ok 0 P t) (hl : t.len ≤ 1000000000000) (pt v : Value) (ks : List (List UInt8)) (w : World) (hk : ks.length ≤ 1000000000) (hat : At w w.heap.size t pt) (hv : Hs w 0 w.heap.size v ks) :
    Calls Try.prog 15 #[.agg #[pt, .int .i64 0], v] w fun e w' => e = .returned (.agg #[(t.cut ks 0).val]) ∧ Below w.heap.size w w' := by
  obtain ⟨W0, hW0⟩ : ∃ x, x = (w.alloc (Obj.cells #[pt, .int .i64 0] 50)).alloc (Obj.cells #[.nilIface] 31) := ⟨_, rfl⟩
  have B0 : Below w.heap.size w W0 := by rw [hW0]; exact ((Below.refl _ _).alloc (Nat.le_refl _) _).alloc (by simp) _
  have R0 : Bk W0 (w.heap.size + 1) 31 [.nilIface] := by rw [hW0]; simpa using Bk.new (w.alloc (Obj.cells #[pt, .int .i64 0] 50)) 31 [.nilIface]
  have c0 : W0.cell? ⟨w.heap.size, 0, none⟩ = some pt := by rw [hW0]; exact ((Bk.new w 50 [pt, .int .i64 0]).alloc _).at_ rfl
  have c1 : W0.cell? ⟨w.heap.size, 1, none⟩ = some (.int .i64 0) := by rw [hW0]; exact ((Bk.new w 50 [pt, .int .i64 0]).alloc _).at_ rfl
  rw [hW0] at c0 c1
  have hc := wcut_any t 0 P ok hl pt v ks W0 hk ((hat.below B0).more B0.size) ((hv.below B0).more B0.size)
  obtain ⟨q, hq⟩ : ∃ q, q = t.cut ks 0 := ⟨_, rfl⟩
  rw [← hq] at hc ⊢
  clear hq
  go_enter Try.func15, Try.ntmps15
  go_wp2_with fail
  rw [← hW0]
  refine hc.mono ?_
  rintro e w1 ⟨rfl, h1⟩
  have R1 := R0.below h1 R0.lt
  have c2 : w1.cell? ⟨w.heap.size + 1, 0, none⟩ = some .nilIface := R1.at_ rfl
  have f2 := R1.frozen 0
  have B1 := below_two B0 h1 B0.size
  clear hW0
  rcases q.form with hfl | ⟨tl', xl', hfl⟩ <;> rw [hfl]
  · go_wp2_with fail
    exact bodyPost_ret (results_row rfl _ _ _ _ _ _ rfl (R1.set_ 0 .nilIface) Try.underlying31 rfl (by kernel_rfl)) rfl ⟨by rw [hfl]; rfl, B1.setCell (by simp) _⟩
  · go_wp2_with fail
    exact bodyPost_ret (results_row rfl _ _ _ _ _ _ rfl (R1.set_ 0 (.iface tl' xl')) Try.underlying31 rfl (by kernel_rfl)) rfl ⟨by rw [hfl]; rfl, B1.setCell (by simp) _⟩
def PutPart (o : Option Pt) (q : Pt) (n : Int) : Prop := match o with | some x => x = q ∧ n = 0 | none => q = .e ∧ n = 100
set_option maxRecDepth 100000 in
theorem pput_any (p : Pt) (k v : List UInt8) (hk : k.length = 32) (hv : v.length = 32) (P : Nat → Bool) (ok : p.Ok 0 P) (w : World) :
    Calls Try.prog 12 #[.agg #[p.val], A8 k, A8 v] w fun e w' => ∃ (q : Pt) (n : Int), e = .returned (.tuple #[.agg #[q.val], .int .i64 n]) ∧ PutPart (p.put k v 256 0) q n ∧ Below w.heap.size w w' := by
  obtain ⟨W0, hW0⟩ : ∃ x, x = (((w.alloc (Obj.cells #[p.val] 31)).alloc (Obj.cells (c8 k).toArray 24)).alloc (Obj.cells (c8 v).toArray 24)).alloc (Obj.cells #[.nilIface] 31) := ⟨_, rfl⟩
  have B0 : Below w.heap.size w W0 := by rw [hW0]; exact ((((Below.refl _ _).alloc (Nat.le_refl _) _).alloc (by simp) _).alloc (by simp; omega) _).alloc (by simp; omega) _
  have R0 : Bk W0 (w.heap.size + 1 + 1 + 1) 31 [.nilIface] := by rw [hW0]; simpa using Bk.new (((w.alloc (Obj.cells #[p.val] 31)).alloc (Obj.cells (c8 k).toArray 24)).alloc (Obj.cells (c8 v).toArray 24)) 31 [.nilIface]
  have c0 : W0.cell? ⟨w.heap.size, 0, none⟩ = some p.val := by rw [hW0]; exact (((Bk.new w 31 [p.val]).alloc _).alloc _).alloc _ |>.at_ rfl
  have K0 : Bk W0 (w.heap.size + 1) 24 (c8 k) := by rw [hW0]; exact ((by simpa using Bk.new (w.alloc (Obj.cells #[p.val] 31)) 24 (c8 k) : Bk _ _ _ _).alloc _).alloc _
  have V0 : Bk W0 (w.heap.size + 1 + 1) 24 (c8 v) := by rw [hW0]; exact (by simpa using Bk.new ((w.alloc (Obj.cells #[p.val] 31)).alloc (Obj.cells (c8 k).toArray 24)) 24 (c8 v) : Bk _ _ _ _).alloc _
  have rk := K0.rows
  have rv := V0.rows
  rw [length_c8, hk] at rk
  rw [length_c8, hv] at rv
  rw [hW0] at c0 rk rv
  have hc := wput_any k v hk hv 256 0 p P W0 rfl ok (fun i hi => by omega)
  go_enter Try.func12, Try.ntmps12
  go_wp2_with fail
  rw [← hW0]
  refine hc.mono ?_
  rintro e w1 ⟨q, n, rfl, hr, h1⟩
  have R1 := R0.below h1 R0.lt
  have c2 : w1.cell? ⟨w.heap.size + 1 + 1 + 1, 0, none⟩ = some .nilIface := R1.at_ rfl
  have f2 := R1.frozen 0
  have B1 := below_two B0 h1 B0.size
  clear hW0 c0 rk rv hc
  have hn : n = 0 ∨ n = 100 := by
    unfold PutRes at hr
    split at hr
    · exact .inl hr.2
    · exact .inr hr
  rcases hn with rfl | rfl
  · have hr' : PutPart (p.put k v 256 0) q 0 := by
      unfold PutRes at hr
      unfold PutPart
      split at hr
      · rename_i h; rw [h]; exact hr
      · cases hr
    clear hr
    rcases q.form with hfl | ⟨tl', xl', hfl⟩ <;> rw [hfl]
    · go_wp2_with fail
      exact bodyPost_ret (results_two rfl (ResAt.row (R1.set_ 0 .nilIface) rfl _ Try.underlying31 rfl (by kernel_rfl)) (ResAt.tmp rfl)) rfl ⟨q, 0, by rw [hfl]; rfl, hr', B1.setCell (by simp; omega) _⟩
    · go_wp2_with fail
      exact bodyPost_ret (results_two rfl (ResAt.row (R1.set_ 0 (.iface tl' xl')) rfl _ Try.underlying31 rfl (by kernel_rfl)) (ResAt.tmp rfl)) rfl ⟨q, 0, by rw [hfl]; rfl, hr', B1.setCell (by simp; omega) _⟩
  · have hr' : PutPart (p.put k v 256 0) .e 100 := by
      unfold PutRes at hr
      unfold PutPart
      split at hr
      · have := hr.2; cases this
      · rename_i h; rw [h]; exact ⟨rfl, rfl⟩
    clear hr
    go_wp2_with fail
    exact bodyPost_ret (results_two rfl (ResAt.row (R1.set_ 0 .nilIface) rfl _ Try.underlying31 rfl (by kernel_rfl)) (ResAt.tmp rfl)) rfl ⟨.e, 100, rfl, hr', B1.setCell (by simp; omega) _⟩
end Go.Proofs.Ytlegpkdighoflaa
