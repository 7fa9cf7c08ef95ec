/- witness.Cut. -/
import Derived.Test.YtlegpkdighoflaaWitE
import Derived.Test.YtlegpkdighoflaaNodes
set_option linter.unusedVariables false
set_option linter.unusedSimpArgs false
namespace Go.Proofs.Ytlegpkdighoflaa
open Go Go.RowKit Sh
theorem cut1_any (k : List UInt8) (d gd : Nat) (hk : k.length = 32) (hd : d < 256) (w : World) (K : Bk w gd 3 [.int .i64 (d : Int)]) :
    Calls Try.prog 43 #[A8 k, .pointer (some ⟨gd, 0, none⟩)] w fun e w' => e = .returned (.bool (kbit k d)) ∧ Below w.heap.size w w' := by
  have c0 : (w.alloc (Obj.cells (c8 k).toArray 24)).cell? ⟨gd, 0, none⟩ = some (.int .i64 (d : Int)) := (K.alloc _).at_ rfl
  have hr : rowAt (w.alloc (Obj.cells (c8 k).toArray 24)) ⟨w.heap.size, 0, none⟩ 32 = some (c8 k) := by have := (Bk.new w 24 (c8 k)).rows; rwa [length_c8, hk] at this
  go_enter Try.func43, Try.ntmps43
  go_wp2_with fail
  refine (wbit_any k d hk hd _).mono ?_
  rintro e w1 ⟨rfl, hb1⟩
  go_wp2_with fail
  go_ret
  exact ⟨rfl, ((Below.refl _ _).alloc (Nat.le_refl _) _).trans (hb1.mono (by simp))⟩
theorem cut2_any (k : List UInt8) (d gd : Nat) (hk : k.length = 32) (hd : d < 256) (w : World) (K : Bk w gd 3 [.int .i64 (d : Int)]) :
    Calls Try.prog 44 #[A8 k, .pointer (some ⟨gd, 0, none⟩)] w fun e w' => e = .returned (.bool (!kbit k d)) ∧ Below w.heap.size w w' := by
  have c0 : (w.alloc (Obj.cells (c8 k).toArray 24)).cell? ⟨gd, 0, none⟩ = some (.int .i64 (d : Int)) := (K.alloc _).at_ rfl
  have hr : rowAt (w.alloc (Obj.cells (c8 k).toArray 24)) ⟨w.heap.size, 0, none⟩ 32 = some (c8 k) := by have := (Bk.new w 24 (c8 k)).rows; rwa [length_c8, hk] at this
  go_enter Try.func44, Try.ntmps44
  go_wp2_with fail
  refine (wbit_any k d hk hd _).mono ?_
  rintro e w1 ⟨rfl, hb1⟩
  go_wp2_with fail
  go_ret
  exact ⟨rfl, ((Below.refl _ _).alloc (Nat.le_refl _) _).trans (hb1.mono (by simp))⟩
theorem Hs.of_del {w : World} {g cap m : Nat} {L : List (List UInt8)} {tl : List Value} (h : RH w g L tl) (hm : m ≤ L.length) (hc : L.length ≤ cap) (hc2 : cap ≤ 9223372036854775807) : Hs w 0 w.heap.size (.slice (some ⟨g, 0, none⟩) m cap) (L.take m) := by
  have e : (L.take m).length = m := by simp; omega
  refine ⟨fun k hk => h.1 k (List.mem_of_mem_take hk), some ⟨g, 0, none⟩, cap, by rw [e], by omega, by unfold maxLen; exact hc2, .inr ⟨g, 0, rfl, Nat.zero_le _, h.lt, fun j u hj => ?_⟩⟩
  rw [Nat.zero_add]
  refine h.2.at_ ?_
  have hf : L.flatten = (L.take m).flatten ++ (L.drop m).flatten := by rw [← List.flatten_append, List.take_append_drop]
  rw [hf]
  have : j < (c8 (L.take m).flatten).length := (List.getElem?_eq_some_iff.1 hj).1
  simp only [c8, List.map_append, List.append_assoc] at hj this ⊢
  rw [List.getElem?_append_left this]
  exact hj
/-- The one behind another: Clone and DeleteFunc in one. -/
theorem wcut_nil (d : Nat) (pt v : Value) (ks : List (List UInt8)) (w : World) (hat : At w w.heap.size .e pt) (hv : Hs w 0 w.heap.size v ks) :
    Calls Try.prog 27 #[.agg #[pt, .int .i64 (d : Int)], .int .i64 (d : Int), v] w fun e w' => e = .returned (Tr.cut .e ks d).val ∧ Below w.heap.size w w' := by
  obtain ⟨W0, hW0⟩ : ∃ x, x = (w.alloc (Obj.cells #[pt, .int .i64 (d : Int)] 50)).alloc (Obj.cells #[.int .i64 (d : Int)] 3) := ⟨_, rfl⟩
  have B0 : Below w.heap.size w W0 := by rw [hW0]; exact ((Below.refl _ _).alloc (Nat.le_refl _) _).alloc (by simp) _
  have A0 : At W0 W0.heap.size .e pt := (hat.below B0).more B0.size
  go_enter Try.func27, Try.ntmps27
  go_wp2_with fail
  rw [← hW0]
  refine (tlen_any .e pt d W0 A0).mono ?_
  rintro e w1 ⟨rfl, hb1⟩
  go_wp2_with fail
  go_ret
  exact ⟨rfl, B0.trans (hb1.mono B0.size)⟩
theorem wcut_hidden (t : Tr) (hp : 0 < t.len) (d : Nat) (pt v : Value) (w : World) (hat : At w w.heap.size t pt) (hv : Hs w 0 w.heap.size v []) :
    Calls Try.prog 27 #[.agg #[pt, .int .i64 (d : Int)], .int .i64 (d : Int), v] w fun e w' => e = .returned (Tr.cut t [] d).val ∧ Below w.heap.size w w' := by
  have ec : Tr.cut t [] d = .hd t.root := by cases t with | e => simp [Tr.len] at hp | lf _ _ => rfl | nd _ _ => rfl
  rw [ec]
  have hrl := t.root_length
  obtain ⟨A, c, rfl, hc1, hc2⟩ := hv.form
  obtain ⟨W0, hW0⟩ : ∃ x, x = (w.alloc (Obj.cells #[pt, .int .i64 (d : Int)] 50)).alloc (Obj.cells #[.int .i64 (d : Int)] 3) := ⟨_, rfl⟩
  have B0 : Below w.heap.size w W0 := by rw [hW0]; exact ((Below.refl _ _).alloc (Nat.le_refl _) _).alloc (by simp) _
  have A0 : At W0 W0.heap.size t pt := (hat.below B0).more B0.size
  have KT : Bk W0 w.heap.size 50 [pt, .int .i64 (d : Int)] := by rw [hW0]; exact (Bk.new w _ [pt, .int .i64 (d : Int)]).alloc _
  have hne : ((t.len : Int) == 0) = false := beq_eq_false_iff_ne.2 (by omega)
  go_enter Try.func27, Try.ntmps27
  go_wp2_with fail
  rw [← hW0]
  clear hW0
  refine (tlen_any t pt d W0 A0).mono ?_
  rintro e w1 ⟨rfl, hb1⟩
  have K1 := KT.below hb1 KT.lt
  have A1 := (A0.below hb1).more hb1.size
  have c0 : w1.cell? ⟨w.heap.size, 0, none⟩ = some pt := K1.at_ rfl
  have c1 : w1.cell? ⟨w.heap.size, 1, none⟩ = some (.int .i64 (d : Int)) := K1.at_ rfl
  go_wp2_with fail
  refine (troot_any t pt d w1 A1).mono ?_
  rintro e w2 ⟨rfl, hb2⟩
  go_wp2_with fail
  go_ret
  exact ⟨rfl, (B0.trans (hb1.mono B0.size)).trans (hb2.mono (Nat.le_trans B0.size hb1.size))⟩
theorem two_rows (w : World) {k x : List UInt8} (hk : k.length = 32) (hx : x.length = 32) :
    rowAt (putAt ((w.alloc (Obj.cells (c8 (z8 32)).toArray 24)).alloc (Obj.cells (c8 (z8 32)).toArray 24)) ⟨w.heap.size, 0, none⟩ (c8 k)) ⟨w.heap.size, 0, none⟩ 32 = some (c8 k) ∧
    rowAt (putAt (putAt ((w.alloc (Obj.cells (c8 (z8 32)).toArray 24)).alloc (Obj.cells (c8 (z8 32)).toArray 24)) ⟨w.heap.size, 0, none⟩ (c8 k)) ⟨w.heap.size + 1, 0, none⟩ (c8 x)) ⟨w.heap.size + 1, 0, none⟩ 32 = some (c8 x) := by
  have h1 := ((Bk.new w 24 (c8 (z8 32))).alloc (Obj.cells (c8 (z8 32)).toArray 24)).puts (vs := c8 k) (by simp [hk])
  have h2 : Bk ((w.alloc (Obj.cells (c8 (z8 32)).toArray 24)).alloc (Obj.cells (c8 (z8 32)).toArray 24)) (w.heap.size + 1) 24 (c8 (z8 32)) := by simpa using Bk.new (w.alloc (Obj.cells (c8 (z8 32)).toArray 24)) 24 (c8 (z8 32))
  have h3 := (h2.putFar (p := ⟨w.heap.size, 0, none⟩) (by simp) (c8 k)).puts (vs := c8 x) (by simp [hx])
  have r1 := h1.rows
  have r3 := h3.rows
  rw [length_c8, hk] at r1
  rw [length_c8, hx] at r3
  exact ⟨r1, r3⟩
theorem wcut_leaf (k x : List UInt8) (d : Nat) (P : Nat → Bool) (ok : Ok d P (.lf k x)) (pt v : Value) (ks : List (List UInt8)) (hne : 0 < ks.length) (w : World) (hat : At w w.heap.size (.lf k x) pt) (hv : Hs w 0 w.heap.size v ks) :
    Calls Try.prog 27 #[.agg #[pt, .int .i64 (d : Int)], .int .i64 (d : Int), v] w fun e w' => e = .returned (Tr.cut (.lf k x) ks d).val ∧ Below w.heap.size w w' := by
  have ec : Tr.cut (.lf k x) ks d = .lf k x := by cases ks with | nil => simp at hne | cons _ _ => rfl
  rw [ec]
  obtain ⟨A, c, rfl, hc1, hc2⟩ := hv.form
  have hks : ((ks.length : Int) == 0) = false := beq_eq_false_iff_ne.2 (by omega)
  have hk := ok.1
  have hx := ok.2.1
  obtain ⟨W0, hW0⟩ : ∃ y, y = (w.alloc (Obj.cells #[pt, .int .i64 (d : Int)] 50)).alloc (Obj.cells #[.int .i64 (d : Int)] 3) := ⟨_, rfl⟩
  have B0 : Below w.heap.size w W0 := by rw [hW0]; exact ((Below.refl _ _).alloc (Nat.le_refl _) _).alloc (by simp) _
  have A0 : At W0 W0.heap.size (.lf k x) pt := (hat.below B0).more B0.size
  have KT : Bk W0 w.heap.size 50 [pt, .int .i64 (d : Int)] := by rw [hW0]; exact (Bk.new w _ [pt, .int .i64 (d : Int)]).alloc _
  go_enter Try.func27, Try.ntmps27
  go_wp2_with fail
  rw [← hW0]
  clear hW0
  refine (tlen_any (.lf k x) pt d W0 A0).mono ?_
  rintro e w1 ⟨rfl, hb1⟩
  have K1 := KT.below hb1 KT.lt
  have A1 := (A0.below hb1).more hb1.size
  have c0 : w1.cell? ⟨w.heap.size, 0, none⟩ = some pt := K1.at_ rfl
  have c1 : w1.cell? ⟨w.heap.size, 1, none⟩ = some (.int .i64 (d : Int)) := K1.at_ rfl
  dsimp only [Tr.len]
  go_wp2_with fail
  refine (tleaf_any (.lf k x) pt d P w1 ok A1).mono ?_
  dsimp only [leafK, leafV, isLeaf]
  rintro e w2 ⟨rfl, hb2⟩
  obtain ⟨hr1, hr2⟩ := two_rows w2 hk hx
  go_wp2_with fail
  go_ret
  refine ⟨rfl, ?_⟩
  have hz : w.heap.size ≤ w2.heap.size := Nat.le_trans (Nat.le_trans B0.size hb1.size) hb2.size
  have hB := (B0.trans (hb1.mono B0.size)).trans (hb2.mono (Nat.le_trans B0.size hb1.size))
  exact below_putAt (below_putAt ((hB.alloc hz _).alloc (by simp; omega) _) hz _) (by show w.heap.size ≤ w2.heap.size + 1; omega) _
set_option maxRecDepth 100000 in
set_option maxHeartbeats 4000000 in
theorem wcut_inner (l r : Tr) (d : Nat) (P : Nat → Bool) (ok : Ok d P (.nd l r)) (hln : (Tr.nd l r).len ≤ 1000000000000) (pt v : Value) (ks : List (List UInt8)) (hne : 0 < ks.length) (hsz : ks.length ≤ 1000000000) (w : World) (hat : At w w.heap.size (.nd l r) pt) (hv : Hs w 0 w.heap.size v ks)
    (IHl : ∀ (pt v : Value) (ks : List (List UInt8)) (w : World), ks.length ≤ 1000000000 → At w w.heap.size l pt → Hs w 0 w.heap.size v ks → Calls Try.prog 27 #[.agg #[pt, .int .i64 ((d : Int) + 1)], .int .i64 ((d : Int) + 1), v] w fun e w' => e = .returned (l.cut ks (d + 1)).val ∧ Below w.heap.size w w')
    (IHr : ∀ (pt v : Value) (ks : List (List UInt8)) (w : World), ks.length ≤ 1000000000 → At w w.heap.size r pt → Hs w 0 w.heap.size v ks → Calls Try.prog 27 #[.agg #[pt, .int .i64 ((d : Int) + 1)], .int .i64 ((d : Int) + 1), v] w fun e w' => e = .returned (r.cut ks (d + 1)).val ∧ Below w.heap.size w w') :
    Calls Try.prog 27 #[.agg #[pt, .int .i64 (d : Int)], .int .i64 (d : Int), v] w fun e w' => e = .returned (Tr.cut (.nd l r) ks d).val ∧ Below w.heap.size w w' := by
  have hie : ks.isEmpty = false := by cases ks with | nil => simp at hne | cons _ _ => rfl
  have ec : Tr.cut (.nd l r) ks d = .nd (l.cut (ks.filter fun x => !kbit x d) (d + 1)) (r.cut (ks.filter fun x => kbit x d) (d + 1)) := by simp only [Tr.cut, hie, if_false, Bool.false_eq_true]
  rw [ec]
  clear ec hie
  have hd := ok.1
  have hl2 := ok.2.1
  have hvf := hv.form
  obtain ⟨A, c, rfl, hc1, hc2⟩ := hvf
  have hks : ((ks.length : Int) == 0) = false := beq_eq_false_iff_ne.2 (by omega)
  obtain ⟨W0, hW0⟩ : ∃ y, y = (w.alloc (Obj.cells #[pt, .int .i64 (d : Int)] 50)).alloc (Obj.cells #[.int .i64 (d : Int)] 3) := ⟨_, rfl⟩
  have B0 : Below w.heap.size w W0 := by rw [hW0]; exact ((Below.refl _ _).alloc (Nat.le_refl _) _).alloc (by simp) _
  have A0 : At W0 W0.heap.size (.nd l r) pt := (hat.below B0).more B0.size
  have KT : Bk W0 w.heap.size 50 [pt, .int .i64 (d : Int)] := by rw [hW0]; exact (Bk.new w _ [pt, .int .i64 (d : Int)]).alloc _
  have KD : Bk W0 (w.heap.size + 1) 3 [.int .i64 (d : Int)] := by rw [hW0]; simpa using Bk.new (w.alloc (Obj.cells #[pt, .int .i64 (d : Int)] 50)) 3 [.int .i64 (d : Int)]
  have hlen0 : (((Tr.nd l r).len : Int) == 0) = false := beq_eq_false_iff_ne.2 (by simp only [Tr.len]; omega)
  go_enter Try.func27, Try.ntmps27
  go_wp2_with fail
  rw [← hW0]
  clear hW0
  refine (tlen_any (.nd l r) pt d W0 A0).mono ?_
  rintro e w1 ⟨rfl, hb1⟩
  have K1 := KT.below hb1 KT.lt
  have D1 := KD.below hb1 KD.lt
  have A1 := (A0.below hb1).more hb1.size
  have H1 := (hv.below B0).below (hb1.mono B0.size)
  have c0 : w1.cell? ⟨w.heap.size, 0, none⟩ = some pt := K1.at_ rfl
  have c1 : w1.cell? ⟨w.heap.size, 1, none⟩ = some (.int .i64 (d : Int)) := K1.at_ rfl
  have z0 := KD.lt
  have B1 := B0.trans (hb1.mono B0.size)
  clear hv hat A0 KT KD B0
  go_wp2_with fail
  refine (tleaf_any (.nd l r) pt d P w1 ok A1).mono ?_
  dsimp only [leafK, leafV, isLeaf]
  rintro e w2 ⟨rfl, hb2⟩
  have z1 := hb1.size
  have K2 := K1.below hb2 K1.lt
  have D2 := D1.below hb2 D1.lt
  have A2 := (A1.below hb2).more hb2.size
  have H2 := H1.below (hb2.mono B1.size)
  have B2 := B1.trans (hb2.mono B1.size)
  clear A1 K1 D1 H1 B1 c0 c1 hb1 hb2
  obtain ⟨W3, hW3⟩ : ∃ y, y = putAt (putAt ((w2.alloc (Obj.cells (c8 (z8 32)).toArray 24)).alloc (Obj.cells (c8 (z8 32)).toArray 24)) ⟨w2.heap.size, 0, none⟩ (c8 (z8 32))) ⟨w2.heap.size + 1, 0, none⟩ (c8 (z8 32)) := ⟨_, rfl⟩
  have hb3 : Below w2.heap.size w2 W3 := by rw [hW3]; exact below_putAt (below_putAt (((Below.refl _ _).alloc (Nat.le_refl _) _).alloc (by simp) _) (Nat.le_refl _) _) (by simp) _
  have K3 := K2.below hb3 K2.lt
  have D3 := D2.below hb3 D2.lt
  have A3 := (A2.below hb3).more hb3.size
  have H3 := H2.below (hb3.mono B2.size)
  have B3 := B2.trans (hb3.mono B2.size)
  have c0 : W3.cell? ⟨w.heap.size, 0, none⟩ = some pt := K3.at_ rfl
  have c1 : W3.cell? ⟨w.heap.size, 1, none⟩ = some (.int .i64 (d : Int)) := K3.at_ rfl
  rw [hW3] at c0 c1
  go_wp2_with fail
  rw [← hW3]
  clear hW3 c0 c1 hb3 K2 D2 A2 H2
  refine (tsides_any (.nd l r) pt d P W3 ok (by omega) A3).mono ?_
  dsimp only [sideL, sideR, isNd, sideD]
  rintro e w4 ⟨pl, pr, rfl, AL, AR, hb4⟩
  have D4 := D3.below hb4 D3.lt
  have H4 := H3.below (hb4.mono B3.size)
  have B4 := B3.trans (hb4.mono B3.size)
  obtain ⟨W5, hW5⟩ : ∃ y, y = (w4.alloc (Obj.cells #[.pointer pl, .int .i64 ((d : Int) + 1)] 50)).alloc (Obj.cells #[.pointer pr, .int .i64 ((d : Int) + 1)] 50) := ⟨_, rfl⟩
  have hb5 : Below w4.heap.size w4 W5 := by rw [hW5]; exact ((Below.refl _ _).alloc (Nat.le_refl _) _).alloc (by simp) _
  have L5 : Bk W5 w4.heap.size 50 [.pointer pl, .int .i64 ((d : Int) + 1)] := by rw [hW5]; exact (Bk.new w4 _ [_, _]).alloc _
  have R5 : Bk W5 (w4.heap.size + 1) 50 [.pointer pr, .int .i64 ((d : Int) + 1)] := by rw [hW5]; simpa using Bk.new (w4.alloc (Obj.cells #[.pointer pl, .int .i64 ((d : Int) + 1)] 50)) 50 [.pointer pr, .int .i64 ((d : Int) + 1)]
  have D5 := D4.below hb5 D4.lt
  have H5 := (H4.below (hb5.mono B4.size)).more (Nat.le_trans B4.size hb5.size)
  have AL5 := (AL.below hb5).more hb5.size
  have AR5 := (AR.below hb5).more hb5.size
  have B5 := B4.trans (hb5.mono B4.size)
  clear K3 D3 A3 H3 B3 D4 H4 AL AR hb4
  go_wp2_with fail
  rw [← hW5]
  clear hW5
  refine (clone_any _ ks W5 H5 hne (by omega)).mono ?_
  rintro e w6 ⟨g6, cap6, tl6, rfl, hg6, R6, hc6, hm6, hb6⟩
  go_wp2_with fail
  have D6 := D5.below hb6 D5.lt
  have zD := D5.lt
  have B6 := B5.trans (hb6.mono B5.size)
  refine (del_any 43 (.pointer (some ⟨w.heap.size + 1, 0, none⟩)) (fun k => kbit k d) (enters_of Try.func43 (by kernel_rfl) rfl) W5.heap.size W5 (fun W x hx hb => (cut1_any x d _ hx hd W (D5.below hb zD))) g6 cap6 ks tl6 (by omega) hc6 hm6 w6 hg6 hb6 R6).mono ?_
  rintro e w7 ⟨m7, L7, rfl, hm7, hg7, R7, hl7, ht7⟩
  have hS7 := Hs.of_del R7 (m := m7) (by rw [hl7, hm7]; exact List.length_filter_le _ _) (by omega) hm6
  rw [ht7] at hS7
  have hb7 : Below W5.heap.size W5 w7 := hb6.grown hg7 hb6.size (fun k hk => by injection hk with hk; omega)
  have z7 := hb7.size
  have hm7l : m7 ≤ ks.length := by rw [hm7]; exact List.length_filter_le _ _
  obtain ⟨u7, hu7⟩ : ∃ u, u = Value.slice (some ⟨g6, 0, none⟩) m7 cap6 := ⟨_, rfl⟩
  rw [← hu7] at hS7 ⊢
  have hf7 : (ks.filter fun k => !kbit k d).length ≤ 1000000000 := by omega
  clear R6 hb6 hg7 ht7 R7 D6 B6 hu7 hm7 hm7l
  go_wp2_with fail
  refine (clone_any _ ks w7 ((H5.below hb7).more hb7.size) hne (by omega)).mono ?_
  rintro e w8 ⟨g8_, cap8, tl8, rfl, hg8, R8, hc8, hm8, hb8⟩
  go_wp2_with fail
  have D7 := D5.below hb7 zD
  have zD7 := D7.lt
  refine (del_any 44 (.pointer (some ⟨w.heap.size + 1, 0, none⟩)) (fun k => !kbit k d) (enters_of Try.func44 (by kernel_rfl) rfl) w7.heap.size w7 (fun W x hx hb => (cut2_any x d _ hx hd W (D7.below hb zD7))) g8_ cap8 ks tl8 (by omega) hc8 hm8 w8 hg8 hb8 R8).mono ?_
  rintro e w9 ⟨m9, L9, rfl, hm9, hg9, R9, hl9, ht9⟩
  have hS9 := Hs.of_del R9 (m := m9) (by rw [hl9, hm9]; exact List.length_filter_le _ _) (by omega) hm8
  rw [ht9] at hS9
  have hb9 : Below w7.heap.size w7 w9 := hb8.grown hg9 hb8.size (fun k hk => by injection hk with hk; omega)
  have hm9l : m9 ≤ ks.length := by rw [hm9]; exact List.length_filter_le _ _
  have z9 := hb9.size
  have hb59 := hb7.trans (hb9.mono hb7.size)
  have hS7' := (hS7.below hb9).more hb9.size
  simp only [Bool.not_not] at hS9 hm9
  obtain ⟨u9, hu9⟩ : ∃ u, u = Value.slice (some ⟨g8_, 0, none⟩) m9 cap8 := ⟨_, rfl⟩
  rw [← hu9] at hS9 ⊢
  have hf9 : (ks.filter fun k => kbit k d).length ≤ 1000000000 := by omega
  clear hu9 hm9 hm9l
  have L9' := L5.below hb59 L5.lt
  have R9' := R5.below hb59 R5.lt
  have D9' := D5.below hb59 D5.lt
  have AL9 := (AL5.below hb59).more hb59.size
  have AR9 := (AR5.below hb59).more hb59.size
  have B9 := B5.trans (hb59.mono B5.size)
  clear R8 hb8 hg9 ht9 R9 D7 L5 R5 D5 AL5 AR5 H5 hS7 hb7 hb9 hb59 hb5 B5
  go_wp2_with fail
  have S9 : Below w9.heap.size w9 w9.drew := (Below.refl _ _).drew
  have zl := L9'.lt
  have zr := R9'.lt
  have zd := D9'.lt
  refine held_begin (fun W => Below w9.heap.size w9 W) (by kernel_rfl) ?_
  refine held_quiet (A := ?A1) [0, 1, 2, 3, 5, 6, 7, 8] (by kernel_rfl) (by kernel_rfl) rfl (by kernel_rfl) (by kernel_rfl) S9 (h := fun W hW => ?h1) (hr := ?r1)
  case h1 =>
    have c0 : W.cell? ⟨w4.heap.size, 0, none⟩ = some (.pointer pl) := (L9'.below hW zl).at_ rfl
    have c1 : W.cell? ⟨w4.heap.size, 1, none⟩ = some (.int .i64 ((d : Int) + 1)) := (L9'.below hW zl).at_ rfl
    have c2 : W.cell? ⟨w4.heap.size + 1, 0, none⟩ = some (.pointer pr) := (R9'.below hW zr).at_ rfl
    have c3 : W.cell? ⟨w4.heap.size + 1, 1, none⟩ = some (.int .i64 ((d : Int) + 1)) := (R9'.below hW zr).at_ rfl
    have c4 : W.cell? ⟨w.heap.size + 1, 0, none⟩ = some (.int .i64 (d : Int)) := (D9'.below hW zd).at_ rfl
    simp only [pick, List.getElem?_cons_zero, List.getElem?_cons_succ]
    repeat (go_big_quiet_step (fail))
    refine wpQuiet_nil ?_
    rfl
  case r1 =>
    have S9d := S9
    refine held_one 4 (by kernel_rfl) (by rfl) (by rfl) (fun Q' hQ' => ?_)
    dsimp only [bare]
    go_wp2_with fail
    refine (IHl (.pointer pl) u7 _ w9.drew hf7 (AL9.below S9) (hS7'.below S9)).mono ?_
    rintro e w10 ⟨rfl, hb10⟩
    have S10 : Below w9.heap.size w9 w10 := S9.trans hb10
    go_wp2_with fail
    refine hQ' _ _ S10 ?_
    clear hQ'
    refine held_one 9 (by kernel_rfl) (by rfl) (by rfl) (fun Q' hQ' => ?_)
    dsimp only [bare]
    go_wp2_with fail
    refine (IHr (.pointer pr) u9 _ w10 hf9 ((AR9.below S10).more S10.size) ((hS9.below S10).more S10.size)).mono ?_
    rintro e w11 ⟨rfl, hb11⟩
    have S11 : Below w9.heap.size w9 w11 := S10.trans (hb11.mono S10.size)
    go_wp2_with fail
    refine hQ' _ _ S11 ?_
    clear hQ'
    obtain ⟨pl', hpl'⟩ : ∃ x, x = l.cut (ks.filter fun x => !kbit x d) (d + 1) := ⟨_, rfl⟩
    obtain ⟨pr', hpr'⟩ : ∃ x, x = r.cut (ks.filter fun x => kbit x d) (d + 1) := ⟨_, rfl⟩
    rw [← hpl', ← hpr']
    have HPL := Lib.hid hpl'
    have HPR := Lib.hid hpr'
    clear hpl' hpr'
    rcases pl'.form with hfl | ⟨tl', xl', hfl⟩ <;> rcases pr'.form with hfr | ⟨tr', xr', hfr⟩ <;> rw [hfl, hfr]
    · refine held_quiet (A := ?A20) [10, 11] (by kernel_rfl) (by kernel_rfl) rfl (by kernel_rfl) (by kernel_rfl) S11 (h := fun W hW => ?h20) (hr := ?r20)
      case h20 =>
        simp only [List.append_eq, List.nil_append, List.cons_append, pick, List.getElem?_cons_zero, List.getElem?_cons_succ]
        repeat (go_big_quiet_step (fail))
        refine wpQuiet_nil ?_
        rfl
      case r20 =>
        refine held_one 12 (by kernel_rfl) (by rfl) (by rfl) (fun Q' hQ' => ?_)
        dsimp only [bare]
        go_wp2_with fail
        refine hQ' _ _ S11 ?_
        clear hQ'
        refine held_end (by kernel_rfl) ?_
        go_wp2_with fail
        go_ret
        exact ⟨by rw [← HPL.out, ← HPR.out]; simp only [Pt.val, hfl, hfr]; rfl, B9.trans (S11.mono B9.size)⟩
    · refine held_quiet (A := ?A21) [10, 11] (by kernel_rfl) (by kernel_rfl) rfl (by kernel_rfl) (by kernel_rfl) S11 (h := fun W hW => ?h21) (hr := ?r21)
      case h21 =>
        simp only [List.append_eq, List.nil_append, List.cons_append, pick, List.getElem?_cons_zero, List.getElem?_cons_succ]
        repeat (go_big_quiet_step (fail))
        refine wpQuiet_nil ?_
        rfl
      case r21 =>
        refine held_one 12 (by kernel_rfl) (by rfl) (by rfl) (fun Q' hQ' => ?_)
        dsimp only [bare]
        go_wp2_with fail
        refine hQ' _ _ S11 ?_
        clear hQ'
        refine held_end (by kernel_rfl) ?_
        go_wp2_with fail
        go_ret
        exact ⟨by rw [← HPL.out, ← HPR.out]; simp only [Pt.val, hfl, hfr]; rfl, B9.trans (S11.mono B9.size)⟩
    · refine held_quiet (A := ?A22) [10, 11] (by kernel_rfl) (by kernel_rfl) rfl (by kernel_rfl) (by kernel_rfl) S11 (h := fun W hW => ?h22) (hr := ?r22)
      case h22 =>
        simp only [List.append_eq, List.nil_append, List.cons_append, pick, List.getElem?_cons_zero, List.getElem?_cons_succ]
        repeat (go_big_quiet_step (fail))
        refine wpQuiet_nil ?_
        rfl
      case r22 =>
        refine held_one 12 (by kernel_rfl) (by rfl) (by rfl) (fun Q' hQ' => ?_)
        dsimp only [bare]
        go_wp2_with fail
        refine hQ' _ _ S11 ?_
        clear hQ'
        refine held_end (by kernel_rfl) ?_
        go_wp2_with fail
        go_ret
        exact ⟨by rw [← HPL.out, ← HPR.out]; simp only [Pt.val, hfl, hfr]; rfl, B9.trans (S11.mono B9.size)⟩
    · refine held_quiet (A := ?A23) [10, 11] (by kernel_rfl) (by kernel_rfl) rfl (by kernel_rfl) (by kernel_rfl) S11 (h := fun W hW => ?h23) (hr := ?r23)
      case h23 =>
        simp only [List.append_eq, List.nil_append, List.cons_append, pick, List.getElem?_cons_zero, List.getElem?_cons_succ]
        repeat (go_big_quiet_step (fail))
        refine wpQuiet_nil ?_
        rfl
      case r23 =>
        refine held_one 12 (by kernel_rfl) (by rfl) (by rfl) (fun Q' hQ' => ?_)
        dsimp only [bare]
        go_wp2_with fail
        refine hQ' _ _ S11 ?_
        clear hQ'
        refine held_end (by kernel_rfl) ?_
        go_wp2_with fail
        go_ret
        exact ⟨by rw [← HPL.out, ← HPR.out]; simp only [Pt.val, hfl, hfr]; rfl, B9.trans (S11.mono B9.size)⟩
theorem wcut_any : ∀ (t : Tr) (d : Nat) (P : Nat → Bool), Ok d P t → t.len ≤ 1000000000000 → ∀ (pt v : Value) (ks : List (List UInt8)) (w : World), ks.length ≤ 1000000000 → At w w.heap.size t pt → Hs w 0 w.heap.size v ks →
    Calls Try.prog 27 #[.agg #[pt, .int .i64 (d : Int)], .int .i64 (d : Int), v] w fun e w' => e = .returned (t.cut ks d).val ∧ Below w.heap.size w w' := by
  intro t
  induction t with
  | e => intro d P ok hl pt v ks w hk hat hv; exact wcut_nil d pt v ks w hat hv
  | lf k x =>
    intro d P ok hl pt v ks w hk hat hv
    cases ks with
    | nil => exact wcut_hidden (.lf k x) (by simp [Tr.len]) d pt v w hat hv
    | cons a ks => exact wcut_leaf k x d P ok pt v (a :: ks) (by simp) w hat hv
  | nd l r ihl ihr =>
    intro d P ok hl pt v ks w hk hat hv
    cases ks with
    | nil => exact wcut_hidden (.nd l r) (by have := ok.2.1; simp only [Tr.len]; omega) d pt v w hat hv
    | cons a ks =>
      have h1 := ihl (d + 1) _ ok.2.2.1 (by simp only [Tr.len] at hl; omega)
      have h2 := ihr (d + 1) _ ok.2.2.2 (by simp only [Tr.len] at hl; omega)
      simp only [Int.natCast_add, Int.cast_ofNat_Int] at h1 h2
      exact wcut_inner l r d P ok hl pt v (a :: ks) (by simp) hk w hat hv h1 h2
end Go.Proofs.Ytlegpkdighoflaa
