/- witness: bytes of a part. -/
import Derived.Test.YtlegpkdighoflaaWit
import Derived.Outline
set_option linter.unusedVariables false
set_option linter.unusedSimpArgs false
namespace Go.Proofs.Ytlegpkdighoflaa
open Go Go.RowKit Sh
def Pt.bytes : Pt → List UInt8
  | .e => [0]
  | .lf k v => [1] ++ k ++ v
  | .nd l r => [2] ++ l.bytes ++ r.bytes
  | .hd h => [3] ++ h
/-- What an append does to the world: v's own block alone, and the new slice lies there or in a new one. -/
def Grw (w w' : World) (v u : Value) : Prop := w.grownBy w' v.ownBlock ∧ (u.ownBlock = v.ownBlock ∨ ∃ g, u.ownBlock = some g ∧ w.heap.size ≤ g)
theorem Grw.refl (w : World) (v : Value) : Grw w w v v := ⟨⟨rfl, rfl, rfl, Nat.le_refl _, fun _ _ _ => rfl⟩, .inl rfl⟩
theorem Grw.trans {a b c : World} {u v x : Value} (h : Grw a b u v) (k : Grw b c v x) : Grw a c u x := by
  obtain ⟨h1, h2⟩ := h
  obtain ⟨k1, k2⟩ := k
  refine ⟨⟨k1.os.trans h1.os, k1.tape.trans h1.tape, k1.output.trans h1.output, Nat.le_trans h1.size k1.size, fun i hi hne => ?_⟩, ?_⟩
  · refine (k1.block i (Nat.lt_of_lt_of_le hi h1.size) ?_).trans (h1.block i hi hne)
    rcases h2 with h2 | ⟨g, h2, h3⟩
    · rw [h2]; exact hne
    · rw [h2]; intro e; injection e with e; omega
  · rcases k2 with k2 | ⟨g, k2, k3⟩
    · rcases h2 with h2 | ⟨g, h2, h3⟩
      · exact .inl (k2.trans h2)
      · exact .inr ⟨g, k2.trans h2, h3⟩
    · exact .inr ⟨g, k2, Nat.le_trans h1.size k3⟩
theorem Grw.more {a b c : World} {u v : Value} (h : Grw a b u v) (hb : Below b.heap.size b c) : Grw a c u v := by
  obtain ⟨h1, h2⟩ := h
  refine ⟨⟨hb.os.trans h1.os, hb.tape.trans h1.tape, hb.output.trans h1.output, Nat.le_trans h1.size hb.size, fun i hi hne => ?_⟩, h2⟩
  exact (hb.block i (Nat.lt_of_lt_of_le hi h1.size)).trans (h1.block i hi hne)
theorem Grw.bk {a b : World} {u v : Value} {g : Nat} {t : TypeId} {cs : List Value} (h : Grw a b u v) (hk : Bk a g t cs) (hne : u.ownBlock ≠ some g) : Bk b g t cs ∧ v.ownBlock ≠ some g := by
  refine ⟨hk.grown h.1 (fun e => hne e.symm), ?_⟩
  have := hk.lt
  rcases h.2 with h2 | ⟨g', h2, h3⟩
  · rw [h2]; exact hne
  · rw [h2]; intro e; injection e with e; omega
theorem Grw.below {a b : World} {u v : Value} {base : Nat} {l : List UInt8} (h : Grw a b u v) (ho : Own8 a base u l) (hb : base ≤ a.heap.size) : Below base a b :=
  (Below.refl _ _).grown h.1 hb (fun k hk => (World.ownsRow.lt ho k hk).1)
set_option maxRecDepth 100000 in
theorem bytes_leaf (k v : List UInt8) (hk : k.length = 32) (hv : v.length = 32) (b : Value) (l : List UInt8) (base : Nat) (w : World) (hb : Own8 w base b l) (hbs : base ≤ w.heap.size) (hsz : l.length ≤ 1099511627776) :
    Calls Try.prog 20 #[b, (Pt.lf k v).val] w fun e w' => ∃ u, e = .returned u ∧ Own8 w' base u (l ++ (Pt.lf k v).bytes) ∧ Grw w w' b u := by
  have hl64 : (pb (k, v)).length = 64 := PrOk.len ⟨hk, hv⟩
  have hown0 : ∀ g, b.ownBlock = some g → g < w.heap.size := fun g hg => (World.ownsRow.lt hb g hg).2
  obtain ⟨W0, hW0⟩ : ∃ x, x = putAt (w.alloc (Obj.cells (c8 (z8 64)).toArray 75)) ⟨w.heap.size, 0, none⟩ (c8 (pb (k, v))) := ⟨_, rfl⟩
  have K0 : Bk W0 w.heap.size 75 (c8 (pb (k, v))) := by rw [hW0]; exact Bk.fresh w _ (by simp [hl64])
  have B0 : Below w.heap.size w W0 := by rw [hW0]; exact below_putAt ((Below.refl _ _).alloc (Nat.le_refl _) _) (Nat.le_refl _) _
  have O0 : Own8 W0 base b l := hb.below B0 (Nat.le_refl _)
  have G0 : Grw w W0 b b := (Grw.refl _ _).more B0
  have N0 : b.ownBlock ≠ some w.heap.size := fun e => by have := hown0 _ e; omega
  have z0 := B0.size
  have hbytes : ((l ++ [1]) ++ k) ++ v = l ++ (Pt.lf k v).bytes := by simp [Pt.bytes]
  rw [← hbytes]
  clear hbytes
  dsimp only [Pt.val]
  go_enter Try.func20, Try.ntmps20
  go_wp2_with fail
  rw [← hW0]
  clear hW0 hb
  have S0 : base ≤ W0.drew.heap.size := by have : W0.drew.heap.size = W0.heap.size := rfl; omega
  refine held_begin (fun W => base ≤ W.heap.size) (by kernel_rfl) ?_
  refine held_quiet (A := ?A1) [0, 3, 4, 6, 7] (by kernel_rfl) (by kernel_rfl) rfl (by kernel_rfl) (by kernel_rfl) S0 (h := fun W hW => ?h1) (hr := ?r1)
  case h1 =>
    simp only [pick, List.getElem?_cons_zero, List.getElem?_cons_succ]
    repeat (go_big_quiet_step (fail))
    refine wpQuiet_nil ?_
    rfl
  case r1 =>
    refine held_one 1 (by kernel_rfl) (by rfl) (by rfl) (fun Q' hQ' => ?_)
    dsimp only [bare]
    go_wp2_with fail
    obtain ⟨W1, hW1⟩ : ∃ x, x = (W0.alloc (Obj.cells #[.int .u8 1] 5)).drew := ⟨_, rfl⟩
    rw [← hW1]
    have b1 : Below W0.heap.size W0 W1 := by rw [hW1]; exact ((Below.refl _ _).alloc (Nat.le_refl _) _).drew
    have y0 : By W1 0 W1.heap.size (.slice (some ⟨W0.heap.size, 0, none⟩) 1 1) [1] := by rw [hW1]; exact (By.build W0 5 (0, 0) [1] (by simp)).more (by simp)
    have z1 := b1.size
    have O1 := O0.below b1 (Nat.le_refl _)
    have G1 := G0.more b1
    have K1 := K0.below b1 K0.lt
    refine hQ' _ _ (by omega) ?_
    clear hQ' hW1
    refine held_one 2 (by kernel_rfl) (by rfl) (by rfl) (fun Q' hQ' => ?_)
    dsimp only [bare]
    refine app8 _ base _ _ rfl _ _ rfl rfl O1 _ rfl [1] 0 _ y0 (by simp; omega) (by omega) ?_
    intro A2 c2 W2 hc21 hc22 O2 _ hg2 ha2
    obtain ⟨u2, hu2⟩ : ∃ u, u = Value.slice A2 (l ++ [1]).length c2 := ⟨_, rfl⟩
    rw [← hu2] at O2 ha2 ⊢
    clear hu2 hc21 hc22
    have g2 : Grw W1 W2 b u2 := ⟨hg2, ha2.imp id fun e => ⟨_, e, Nat.le_refl _⟩⟩
    have G2 := G1.trans g2
    obtain ⟨K2, N2⟩ := g2.bk K1 N0
    have z2 := hg2.size
    go_wp2_with fail
    refine hQ' _ _ (by omega) ?_
    clear hQ' hg2 ha2
    have yk : By W2 0 W2.heap.size (.slice (some ⟨w.heap.size, 0, none⟩) 32 32) k := By.of_row (pair_key K2 ⟨hk, hv⟩) K2.lt (by omega)
    refine held_one 5 (by kernel_rfl) (by rfl) (by rfl) (fun Q' hQ' => ?_)
    dsimp only [bare]
    refine app8 _ base _ _ rfl _ _ rfl rfl O2 _ rfl k 0 _ yk (by simp; omega) (by omega) ?_
    intro A3 c3 W3 hc31 hc32 O3 _ hg3 ha3
    obtain ⟨u3, hu3⟩ : ∃ u, u = Value.slice A3 ((l ++ [1]) ++ k).length c3 := ⟨_, rfl⟩
    rw [← hu3] at O3 ha3 ⊢
    clear hu3 hc31 hc32
    have g3 : Grw W2 W3 u2 u3 := ⟨hg3, ha3.imp id fun e => ⟨_, e, Nat.le_refl _⟩⟩
    have G3 := G2.trans g3
    obtain ⟨K3, N3⟩ := g3.bk K2 N2
    have z3 := hg3.size
    go_wp2_with fail
    refine hQ' _ _ (by omega) ?_
    clear hQ' hg3 ha3
    have yv : By W3 0 W3.heap.size (.slice (some ⟨w.heap.size, 32, none⟩) 32 32) v := By.of_row (pair_val K3 ⟨hk, hv⟩) K3.lt (by omega)
    refine held_one 8 (by kernel_rfl) (by rfl) (by rfl) (fun Q' hQ' => ?_)
    dsimp only [bare]
    refine app8 _ base _ _ rfl _ _ rfl rfl O3 _ rfl v 0 _ yv (by simp; omega) (by omega) ?_
    intro A4 c4 W4 hc41 hc42 O4 _ hg4 ha4
    obtain ⟨u4, hu4⟩ : ∃ u, u = Value.slice A4 (((l ++ [1]) ++ k) ++ v).length c4 := ⟨_, rfl⟩
    rw [← hu4] at O4 ha4 ⊢
    clear hu4 hc41 hc42
    have g4 : Grw W3 W4 u3 u4 := ⟨hg4, ha4.imp id fun e => ⟨_, e, Nat.le_refl _⟩⟩
    have G4 := G3.trans g4
    have z4 := hg4.size
    go_wp2_with fail
    refine hQ' _ _ (by omega) ?_
    clear hQ' hg4 ha4
    refine held_one 9 (by kernel_rfl) (by rfl) (by rfl) (fun Q' hQ' => ?_)
    dsimp only [bare]
    go_wp2_with fail
    refine hQ' _ _ (by omega) ?_
    clear hQ'
    refine held_end (by kernel_rfl) ?_
    go_wp2_with fail
    go_ret
    exact ⟨_, rfl, O4, G4⟩
set_option maxRecDepth 100000 in
theorem bytes_nil (b : Value) (l : List UInt8) (base : Nat) (w : World) (hb : Own8 w base b l) (hbs : base ≤ w.heap.size) (hsz : l.length ≤ 1099511627776) :
    Calls Try.prog 20 #[b, Pt.e.val] w fun e w' => ∃ u, e = .returned u ∧ Own8 w' base u (l ++ Pt.e.bytes) ∧ Grw w w' b u := by
  have y0 : By (w.alloc (Obj.cells #[.int .u8 0] 5)) 0 (w.heap.size + 1) (.slice (some ⟨w.heap.size, 0, none⟩) 1 1) [0] := By.build w 5 (0, 0) [0] (by simp)
  have O1 : Own8 (w.alloc (Obj.cells #[.int .u8 0] 5)) base b l := hb.alloc _
  have G1 : Grw w (w.alloc (Obj.cells #[.int .u8 0] 5)) b b := (Grw.refl _ _).more ((Below.refl _ _).alloc (Nat.le_refl _) _)
  dsimp only [Pt.val, Pt.bytes]
  go_enter Try.func20, Try.ntmps20
  go_wp2_with (at_builtin; refine app8 _ base _ _ rfl _ _ rfl rfl O1 _ rfl [0] 0 _ y0 (by simp; omega) (by simp; omega) ?_; intro A2 c2 W2 hc21 hc22 O2 _ hg2 ha2; obtain ⟨u2, hu2⟩ : ∃ u, u = Value.slice A2 (l ++ [0]).length c2 := ⟨_, rfl⟩; rw [← hu2] at O2 ha2 ⊢; clear hu2 hc21 hc22)
  go_ret
  exact ⟨_, rfl, O2, G1.trans ⟨hg2, ha2.imp id fun e => ⟨_, e, Nat.le_refl _⟩⟩⟩
set_option maxRecDepth 100000 in
theorem bytes_hidden (h : List UInt8) (hh : h.length = 32) (b : Value) (l : List UInt8) (base : Nat) (w : World) (hb : Own8 w base b l) (hbs : base ≤ w.heap.size) (hsz : l.length ≤ 1099511627776) :
    Calls Try.prog 20 #[b, (Pt.hd h).val] w fun e w' => ∃ u, e = .returned u ∧ Own8 w' base u (l ++ (Pt.hd h).bytes) ∧ Grw w w' b u := by
  have hown0 : ∀ g, b.ownBlock = some g → g < w.heap.size := fun g hg => (World.ownsRow.lt hb g hg).2
  obtain ⟨W0, hW0⟩ : ∃ x, x = putAt (w.alloc (Obj.cells (c8 (z8 32)).toArray 73)) ⟨w.heap.size, 0, none⟩ (c8 h) := ⟨_, rfl⟩
  have K0 : Bk W0 w.heap.size 73 (c8 h) := by rw [hW0]; exact Bk.fresh w _ (by simp [hh])
  have B0 : Below w.heap.size w W0 := by rw [hW0]; exact below_putAt ((Below.refl _ _).alloc (Nat.le_refl _) _) (Nat.le_refl _) _
  have O0 : Own8 W0 base b l := hb.below B0 (Nat.le_refl _)
  have G0 : Grw w W0 b b := (Grw.refl _ _).more B0
  have N0 : b.ownBlock ≠ some w.heap.size := fun e => by have := hown0 _ e; omega
  have z0 := B0.size
  have hbytes : (l ++ [3]) ++ h = l ++ (Pt.hd h).bytes := by simp [Pt.bytes]
  rw [← hbytes]
  clear hbytes
  dsimp only [Pt.val]
  go_enter Try.func20, Try.ntmps20
  go_wp2_with fail
  rw [← hW0]
  clear hW0 hb
  have S0 : base ≤ W0.drew.heap.size := by have : W0.drew.heap.size = W0.heap.size := rfl; omega
  refine held_begin (fun W => base ≤ W.heap.size) (by kernel_rfl) ?_
  refine held_quiet (A := ?A1) [0, 3, 4] (by kernel_rfl) (by kernel_rfl) rfl (by kernel_rfl) (by kernel_rfl) S0 (h := fun W hW => ?h1) (hr := ?r1)
  case h1 =>
    simp only [pick, List.getElem?_cons_zero, List.getElem?_cons_succ]
    repeat (go_big_quiet_step (fail))
    refine wpQuiet_nil ?_
    rfl
  case r1 =>
    refine held_one 1 (by kernel_rfl) (by rfl) (by rfl) (fun Q' hQ' => ?_)
    dsimp only [bare]
    go_wp2_with fail
    obtain ⟨W1, hW1⟩ : ∃ x, x = (W0.alloc (Obj.cells #[.int .u8 3] 5)).drew := ⟨_, rfl⟩
    rw [← hW1]
    have b1 : Below W0.heap.size W0 W1 := by rw [hW1]; exact ((Below.refl _ _).alloc (Nat.le_refl _) _).drew
    have y0 : By W1 0 W1.heap.size (.slice (some ⟨W0.heap.size, 0, none⟩) 1 1) [3] := by rw [hW1]; exact (By.build W0 5 (0, 0) [3] (by simp)).more (by simp)
    have z1 := b1.size
    have O1 := O0.below b1 (Nat.le_refl _)
    have G1 := G0.more b1
    have K1 := K0.below b1 K0.lt
    refine hQ' _ _ (by omega) ?_
    clear hQ' hW1
    refine held_one 2 (by kernel_rfl) (by rfl) (by rfl) (fun Q' hQ' => ?_)
    dsimp only [bare]
    refine app8 _ base _ _ rfl _ _ rfl rfl O1 _ rfl [3] 0 _ y0 (by simp; omega) (by omega) ?_
    intro A2 c2 W2 hc21 hc22 O2 _ hg2 ha2
    obtain ⟨u2, hu2⟩ : ∃ u, u = Value.slice A2 (l ++ [3]).length c2 := ⟨_, rfl⟩
    rw [← hu2] at O2 ha2 ⊢
    clear hu2 hc21 hc22
    have g2 : Grw W1 W2 b u2 := ⟨hg2, ha2.imp id fun e => ⟨_, e, Nat.le_refl _⟩⟩
    have G2 := G1.trans g2
    obtain ⟨K2, N2⟩ := g2.bk K1 N0
    have z2 := hg2.size
    go_wp2_with fail
    refine hQ' _ _ (by omega) ?_
    clear hQ' hg2 ha2
    have yk : By W2 0 W2.heap.size (.slice (some ⟨w.heap.size, 0, none⟩) 32 32) h := By.of_row (by have := K2.rows; rwa [length_c8, hh] at this) K2.lt (by omega)
    refine held_one 5 (by kernel_rfl) (by rfl) (by rfl) (fun Q' hQ' => ?_)
    dsimp only [bare]
    refine app8 _ base _ _ rfl _ _ rfl rfl O2 _ rfl h 0 _ yk (by simp; omega) (by omega) ?_
    intro A3 c3 W3 hc31 hc32 O3 _ hg3 ha3
    obtain ⟨u3, hu3⟩ : ∃ u, u = Value.slice A3 ((l ++ [3]) ++ h).length c3 := ⟨_, rfl⟩
    rw [← hu3] at O3 ha3 ⊢
    clear hu3 hc31 hc32
    have g3 : Grw W2 W3 u2 u3 := ⟨hg3, ha3.imp id fun e => ⟨_, e, Nat.le_refl _⟩⟩
    have G3 := G2.trans g3
    have z3 := hg3.size
    go_wp2_with fail
    refine hQ' _ _ (by omega) ?_
    clear hQ' hg3 ha3
    refine held_one 6 (by kernel_rfl) (by rfl) (by rfl) (fun Q' hQ' => ?_)
    dsimp only [bare]
    go_wp2_with fail
    refine hQ' _ _ (by omega) ?_
    clear hQ'
    refine held_end (by kernel_rfl) ?_
    go_wp2_with fail
    go_ret
    exact ⟨_, rfl, O3, G3⟩
set_option maxRecDepth 100000 in
theorem bytes_inner (p q : Pt) (b : Value) (l : List UInt8) (base : Nat) (w : World) (hb : Own8 w base b l) (hbs : base ≤ w.heap.size) (hsz : l.length + (Pt.nd p q).bytes.length ≤ 1099511627776)
    (IHp : ∀ (b : Value) (l : List UInt8) (w : World), Own8 w base b l → base ≤ w.heap.size → l.length + p.bytes.length ≤ 1099511627776 → Calls Try.prog 20 #[b, p.val] w fun e w' => ∃ u, e = .returned u ∧ Own8 w' base u (l ++ p.bytes) ∧ Grw w w' b u)
    (IHq : ∀ (b : Value) (l : List UInt8) (w : World), Own8 w base b l → base ≤ w.heap.size → l.length + q.bytes.length ≤ 1099511627776 → Calls Try.prog 20 #[b, q.val] w fun e w' => ∃ u, e = .returned u ∧ Own8 w' base u (l ++ q.bytes) ∧ Grw w w' b u) :
    Calls Try.prog 20 #[b, (Pt.nd p q).val] w fun e w' => ∃ u, e = .returned u ∧ Own8 w' base u (l ++ (Pt.nd p q).bytes) ∧ Grw w w' b u := by
  have hown0 : ∀ g, b.ownBlock = some g → g < w.heap.size := fun g hg => (World.ownsRow.lt hb g hg).2
  have hbytes : ((l ++ [2]) ++ p.bytes) ++ q.bytes = l ++ (Pt.nd p q).bytes := by simp [Pt.bytes]
  have hlen : (Pt.nd p q).bytes.length = 1 + p.bytes.length + q.bytes.length := by simp [Pt.bytes]; omega
  rw [← hbytes]
  rw [hlen] at hsz
  clear hbytes hlen
  dsimp only [Pt.val]
  generalize p.bytes = pb1 at *
  generalize q.bytes = qb1 at *
  go_enter Try.func20, Try.ntmps20
  go_wp2_with fail
  obtain ⟨W0, hW0⟩ : ∃ x, x = w.alloc (Obj.cells #[p.val, q.val] 70) := ⟨_, rfl⟩
  rw [← hW0]
  have K0 : Bk W0 w.heap.size 70 [p.val, q.val] := by rw [hW0]; exact Bk.new w _ [p.val, q.val]
  have B0 : Below w.heap.size w W0 := by rw [hW0]; exact (Below.refl _ _).alloc (Nat.le_refl _) _
  have O0 : Own8 W0 base b l := hb.below B0 (Nat.le_refl _)
  have G0 : Grw w W0 b b := (Grw.refl _ _).more B0
  have N0 : b.ownBlock ≠ some w.heap.size := fun e => by have := hown0 _ e; omega
  have z0 := B0.size
  clear hW0 hb
  have S0 : base ≤ W0.drew.heap.size ∧ Bk W0.drew w.heap.size 70 [p.val, q.val] := ⟨by have : W0.drew.heap.size = W0.heap.size := rfl; omega, K0.drew⟩
  refine held_begin (fun W => base ≤ W.heap.size ∧ Bk W w.heap.size 70 [p.val, q.val]) (by kernel_rfl) ?_
  refine held_quiet (A := ?A1) [0, 3, 4, 6, 7] (by kernel_rfl) (by kernel_rfl) rfl (by kernel_rfl) (by kernel_rfl) S0 (h := fun W hW => ?h1) (hr := ?r1)
  case h1 =>
    have c0 : W.cell? ⟨w.heap.size, 0, none⟩ = some p.val := hW.2.at_ rfl
    have c1 : W.cell? ⟨w.heap.size, 1, none⟩ = some q.val := hW.2.at_ rfl
    simp only [pick, List.getElem?_cons_zero, List.getElem?_cons_succ]
    repeat (go_big_quiet_step (fail))
    refine wpQuiet_nil ?_
    rfl
  case r1 =>
    refine held_one 1 (by kernel_rfl) (by rfl) (by rfl) (fun Q' hQ' => ?_)
    dsimp only [bare]
    go_wp2_with fail
    obtain ⟨W1, hW1⟩ : ∃ x, x = (W0.alloc (Obj.cells #[.int .u8 2] 5)).drew := ⟨_, rfl⟩
    rw [← hW1]
    have b1 : Below W0.heap.size W0 W1 := by rw [hW1]; exact ((Below.refl _ _).alloc (Nat.le_refl _) _).drew
    have y0 : By W1 0 W1.heap.size (.slice (some ⟨W0.heap.size, 0, none⟩) 1 1) [2] := by rw [hW1]; exact (By.build W0 5 (0, 0) [2] (by simp)).more (by simp)
    have z1 := b1.size
    have O1 := O0.below b1 (Nat.le_refl _)
    have G1 := G0.more b1
    have K1 := K0.below b1 K0.lt
    refine hQ' _ _ ⟨by omega, K1⟩ ?_
    clear hQ' hW1
    refine held_one 2 (by kernel_rfl) (by rfl) (by rfl) (fun Q' hQ' => ?_)
    dsimp only [bare]
    refine app8 _ base _ _ rfl _ _ rfl rfl O1 _ rfl [2] 0 _ y0 (by simp; omega) (by omega) ?_
    intro A2 c2 W2 hc21 hc22 O2 _ hg2 ha2
    obtain ⟨u2, hu2⟩ : ∃ u, u = Value.slice A2 (l ++ [2]).length c2 := ⟨_, rfl⟩
    rw [← hu2] at O2 ha2 ⊢
    clear hu2 hc21 hc22
    have g2 : Grw W1 W2 b u2 := ⟨hg2, ha2.imp id fun e => ⟨_, e, Nat.le_refl _⟩⟩
    have G2 := G1.trans g2
    obtain ⟨K2, N2⟩ := g2.bk K1 N0
    have z2 := hg2.size
    go_wp2_with fail
    refine hQ' _ _ ⟨by omega, K2⟩ ?_
    clear hQ' hg2 ha2
    refine held_one 5 (by kernel_rfl) (by rfl) (by rfl) (fun Q' hQ' => ?_)
    dsimp only [bare]
    go_wp2_with fail
    refine (IHp u2 (l ++ [2]) W2 O2 (by omega) (by simp; omega)).mono ?_
    rintro e W3 ⟨u3, rfl, O3, g3⟩
    have G3 := G2.trans g3
    obtain ⟨K3, N3⟩ := g3.bk K2 N2
    have z3 := g3.1.size
    go_wp2_with fail
    refine hQ' _ _ ⟨by omega, K3⟩ ?_
    clear hQ'
    refine held_one 8 (by kernel_rfl) (by rfl) (by rfl) (fun Q' hQ' => ?_)
    dsimp only [bare]
    go_wp2_with fail
    refine (IHq u3 ((l ++ [2]) ++ pb1) W3 O3 (by omega) (by simp; omega)).mono ?_
    rintro e W4 ⟨u4, rfl, O4, g4⟩
    have G4 := G3.trans g4
    obtain ⟨K4, N4⟩ := g4.bk K3 N3
    have z4 := g4.1.size
    go_wp2_with fail
    refine hQ' _ _ ⟨by omega, K4⟩ ?_
    clear hQ'
    refine held_one 9 (by kernel_rfl) (by rfl) (by rfl) (fun Q' hQ' => ?_)
    dsimp only [bare]
    go_wp2_with fail
    refine hQ' _ _ ⟨by omega, K4⟩ ?_
    clear hQ'
    refine held_end (by kernel_rfl) ?_
    go_wp2_with fail
    go_ret
    exact ⟨_, rfl, O4, G4⟩
/-- The bytes of a part, behind others. -/
theorem bytes_any : ∀ (p : Pt), p.Wf → ∀ (base : Nat) (b : Value) (l : List UInt8) (w : World), Own8 w base b l → base ≤ w.heap.size → l.length + p.bytes.length ≤ 1099511627776 →
    Calls Try.prog 20 #[b, p.val] w fun e w' => ∃ u, e = .returned u ∧ Own8 w' base u (l ++ p.bytes) ∧ Grw w w' b u
  | .e, _, base, b, l, w, hb, hbs, hsz => bytes_nil b l base w hb hbs (by omega)
  | .lf k v, hw, base, b, l, w, hb, hbs, hsz => bytes_leaf k v hw.1 hw.2 b l base w hb hbs (by omega)
  | .hd h, hw, base, b, l, w, hb, hbs, hsz => bytes_hidden h hw b l base w hb hbs (by omega)
  | .nd p q, hw, base, b, l, w, hb, hbs, hsz => bytes_inner p q b l base w hb hbs hsz (bytes_any p hw.1 base) (bytes_any q hw.2 base)
set_option maxRecDepth 100000 in
/-- Part.Bytes. -/
theorem pbytes_any (p : Pt) (hw : p.Wf) (hsz : p.bytes.length ≤ 1099511627776) (w : World) :
    Calls Try.prog 8 #[.agg #[p.val]] w fun e w' => ∃ u, e = .returned u ∧ Own8 w' w.heap.size u p.bytes ∧ Below w.heap.size w w' := by
  obtain ⟨W0, hW0⟩ : ∃ x, x = w.alloc (Obj.cells #[p.val] 31) := ⟨_, rfl⟩
  have B0 : Below w.heap.size w W0 := by rw [hW0]; exact (Below.refl _ _).alloc (Nat.le_refl _) _
  go_enter Try.func8, Try.ntmps8
  go_wp2_with fail
  rw [← hW0]
  refine (bytes_any p hw w.heap.size (.slice none 0 0) [] W0 (Own8.nil _ _) B0.size (by simpa using hsz)).mono ?_
  rintro e w1 ⟨u, rfl, ho, hg⟩
  have hb : Below w.heap.size W0 w1 := hg.below (Own8.nil _ _) B0.size
  clear hW0
  go_wp2_with fail
  go_ret
  exact ⟨u, rfl, by simpa using ho, B0.trans hb⟩
set_option maxRecDepth 100000 in
/-- Part.Root. -/
theorem proots_any (p : Pt) (hw : p.Wf) (w : World) :
    Calls Try.prog 7 #[.agg #[p.val]] w fun e w' => e = .returned (A8 p.root) ∧ Below w.heap.size w w' := by
  have hrl := Pt.root_length hw
  obtain ⟨W0, hW0⟩ : ∃ x, x = (w.alloc (Obj.cells #[p.val] 31)).alloc (Obj.cells (c8 (z8 32)).toArray 24) := ⟨_, rfl⟩
  have R0 : Bk W0 (w.heap.size + 1) 24 (c8 (z8 32)) := by rw [hW0]; simpa using Bk.new (w.alloc (Obj.cells #[p.val] 31)) 24 (c8 (z8 32))
  have B0 : Below w.heap.size w W0 := by rw [hW0]; exact ((Below.refl _ _).alloc (Nat.le_refl _) _).alloc (by simp) _
  go_enter Try.func7, Try.ntmps7
  go_wp2_with fail
  rw [← hW0]
  refine (proot_any p hw W0).mono ?_
  rintro e w1 ⟨rfl, h1⟩
  have R1 := R0.below h1 R0.lt
  have hcan : canAt w1 ⟨w.heap.size + 1, 0, none⟩ 32 = true := R1.can (by simp)
  have B1 := below_two B0 h1 B0.size
  clear hW0
  go_wp2_with fail
  exact bodyPost_ret (results_row rfl _ _ _ _ _ _ rfl (R1.puts (vs := c8 p.root) (by simp [hrl])) Try.underlying24 rfl (by simp [info_h32, hrl])) rfl ⟨rfl, below_putAt B1 (by simp) _⟩
end Go.Proofs.Ytlegpkdighoflaa
