/- witanlaw09.TreeNodes answers true. -/
import Derived.Test.YtlegpkdighoflaaNodesA
import Derived.Test.YtlegpkdighoflaaOwnR
import Derived.Test.YtlegpkdighoflaaHeldMix
import Derived.Outline
set_option linter.unusedVariables false
set_option linter.unusedSimpArgs false
namespace Go.Proofs.Ytlegpkdighoflaa
open Go Go.RowKit Sh
def leafK : Tr → List UInt8 | .lf k _ => k | _ => z8 32
def leafV : Tr → List UInt8 | .lf _ v => v | _ => z8 32
def isLeaf : Tr → Bool | .lf _ _ => true | _ => false
def sideL : Tr → Tr | .nd l _ => l | _ => .e
def sideR : Tr → Tr | .nd _ r => r | _ => .e
def isNd : Tr → Bool | .nd _ _ => true | _ => false
def sideD (d : Nat) : Tr → Int | .nd _ _ => (d : Int) + 1 | _ => 0
theorem tleaf_any (s : Tr) (p : Value) (d : Nat) (P : Nat → Bool) (w : World) (ok : Ok d P s) (h : At w w.heap.size s p) :
    Calls Try.prog 39 #[.agg #[p, .int .i64 (d : Int)]] w fun e w' => e = .returned (.tuple #[A8 (leafK s), A8 (leafV s), .bool (isLeaf s)]) ∧ Below w.heap.size w w' := by
  cases s with
  | e => exact tleaf_no .e p d w h (by simp [Tr.len])
  | lf k v => exact tleaf_yes k v p d w h
  | nd l r => exact tleaf_no (.nd l r) p d w h (by have := ok.2.1; simp only [Tr.len]; omega)
theorem tsides_any (s : Tr) (p : Value) (d : Nat) (P : Nat → Bool) (w : World) (ok : Ok d P s) (hd : d ≤ 256) (h : At w w.heap.size s p) :
    Calls Try.prog 40 #[.agg #[p, .int .i64 (d : Int)]] w fun e w' => ∃ pl pr, e = .returned (.tuple #[.agg #[.pointer pl, .int .i64 (sideD d s)], .agg #[.pointer pr, .int .i64 (sideD d s)], .bool (isNd s)]) ∧ At w' w'.heap.size (sideL s) (.pointer pl) ∧ At w' w'.heap.size (sideR s) (.pointer pr) ∧ Below w.heap.size w w' := by
  cases s with
  | e => exact (tsides_no .e p d w h (by simp [Tr.len])).mono fun e w' ⟨h1, h2⟩ => ⟨none, none, h1, rfl, rfl, h2⟩
  | lf k v => exact (tsides_no (.lf k v) p d w h (by simp [Tr.len])).mono fun e w' ⟨h1, h2⟩ => ⟨none, none, h1, rfl, rfl, h2⟩
  | nd l r =>
    refine (tsides_yes l r p d w h ok.2.1 hd).mono fun e w' ⟨pl, pr, h1, h2, h3, h4⟩ => ?_
    obtain ⟨al, rfl⟩ := h2.form
    obtain ⟨ar, rfl⟩ := h3.form
    exact ⟨al, ar, h1, h2, h3, h4⟩
theorem length_leafK {s : Tr} {d : Nat} {P : Nat → Bool} (ok : Ok d P s) : (leafK s).length = 32 := by
  cases s with
  | lf k v => exact ok.1
  | _ => simp [leafK]
theorem length_leafV {s : Tr} {d : Nat} {P : Nat → Bool} (ok : Ok d P s) : (leafV s).length = 32 := by
  cases s with
  | lf k v => exact ok.2.1
  | _ => simp [leafV]
theorem look_split {l r : Tr} {d : Nat} {P : Nat → Bool} (ok : Ok d P (.nd l r)) {q : Pr} (hq : q ∈ (Tr.nd l r).pairs) : (l.look q.1 (d + 1) = some q.2 ∧ r.look q.1 (d + 1) = none) ∨ (l.look q.1 (d + 1) = none ∧ r.look q.1 (d + 1) = some q.2) := by
  have hq2 : q ∈ l.pairs ∨ q ∈ r.pairs := by simpa [Tr.pairs] using hq
  rcases hq2 with h | h
  · refine .inl ⟨(look_some ok.2.2.1).2 h, ?_⟩
    cases hr : r.look q.1 (d + 1) with
    | none => rfl
    | some v =>
      have h1 := ok.right _ ((look_some ok.2.2.2).1 hr)
      have h2 := ok.left _ h
      rw [h1] at h2; cases h2
  · refine .inr ⟨?_, (look_some ok.2.2.2).2 h⟩
    cases hr : l.look q.1 (d + 1) with
    | none => rfl
    | some v =>
      have h1 := ok.left _ ((look_some ok.2.2.1).1 hr)
      have h2 := ok.right _ h
      rw [h1] at h2; cases h2
theorem res_split {l r : Tr} {d : Nat} {P : Nat → Bool} (ok : Ok d P (.nd l r)) {q : Pr} (hq : q ∈ (Tr.nd l r).pairs) : ∃ x y : List UInt8, ∃ b c : Bool, x.length = 32 ∧ y.length = 32 ∧ getRes (l.look q.1 (d + 1)) = .tuple #[A8 x, .bool b] ∧ getRes (r.look q.1 (d + 1)) = .tuple #[A8 y, .bool c] ∧ ((b = true ∧ c = false ∧ x = q.2) ∨ (b = false ∧ c = true ∧ y = q.2)) := by
  have h2 : q.2.length = 32 := (ok.keys q hq).2.1
  rcases look_split ok hq with ⟨h3, h4⟩ | ⟨h3, h4⟩
  · exact ⟨q.2, z8 32, true, false, h2, by simp, by rw [h3]; rfl, by rw [h4]; rfl, .inl ⟨rfl, rfl, rfl⟩⟩
  · exact ⟨z8 32, q.2, false, true, by simp, h2, by rw [h3]; rfl, by rw [h4]; rfl, .inr ⟨rfl, rfl, rfl⟩⟩
theorem getD_clash {m : Array Bool} {i : Nat} (h1 : m.getD i true = false) (h2 : m.getD i false = true) : False := by
  rcases Nat.lt_or_ge i m.size with h | h
  · simp [h] at h1 h2; rw [h1] at h2; cases h2
  · simp [Array.getElem?_eq_none h] at h1
theorem getD_mark {m : Array Bool} {i : Nat} (h : i < m.size) (j : Nat) : (m.setIfInBounds i true).getD j false = (if j = i then true else m.getD j false) := by
  by_cases hj : j = i
  · subst hj; simp [h]
  · rw [if_neg hj]; simp [Array.getElem?_setIfInBounds_ne (Ne.symm hj)]
def CellB (W0 : World) (i j : Bool) (w : World) (s : Value) (r : List UInt8) : Prop := i = true → ∃ g, s = .pointer (some ⟨g, 0, none⟩) ∧ W0.heap.size ≤ g ∧ Bk w g 24 (c8 (if j then r else z8 32))
/-- Two calls that give arrays, two arrays made, the two stores. -/
def InvB (W0 : World) (fr : Value → Value → Value → Value → Act) (rl rr : List UInt8) (b1 b3 b4 b5 b6 b7 : Bool) (ac : Act) (w : World) : Prop :=
  ∃ s1 s2 s3 s4, ac = fr s1 s2 s3 s4 ∧ Below W0.heap.size W0 w ∧ (b1 = true → s3 = A8 rl) ∧ (b3 = true → s4 = A8 rr) ∧ CellB W0 b4 b6 w s1 rl ∧ CellB W0 b5 b7 w s2 rr ∧ (b4 = true → b5 = true → s1 ≠ s2) ∧ (b6 = true → b4 = true) ∧ (b7 = true → b5 = true)
theorem CellB.below {W0 : World} {i j : Bool} {w w' : World} {s : Value} {r : List UInt8} (h : CellB W0 i j w s r) (hb : Below w.heap.size w w') : CellB W0 i j w' s r := by
  intro hi
  obtain ⟨g, e, h1, h2⟩ := h hi
  exact ⟨g, e, h1, h2.below hb h2.lt⟩
theorem InvB.below {W0 : World} {fr : Value → Value → Value → Value → Act} {rl rr : List UInt8} {b1 b3 b4 b5 b6 b7 : Bool} {ac : Act} {w w' : World} (h : InvB W0 fr rl rr b1 b3 b4 b5 b6 b7 ac w) (hb : Below w.heap.size w w') : InvB W0 fr rl rr b1 b3 b4 b5 b6 b7 ac w' := by
  obtain ⟨s1, s2, s3, s4, e, B, F1, F3, F4, F5, F6, F7⟩ := h
  exact ⟨s1, s2, s3, s4, e, below_two B hb B.size, F1, F3, F4.below hb, F5.below hb, F6, F7⟩
theorem InvB.call1 {W0 : World} {fr : Value → Value → Value → Value → Act} {rl rr : List UInt8} {b1 b3 b4 b5 b6 b7 : Bool} {s1 s2 s3 s4 : Value} {w w' : World} (B : Below W0.heap.size W0 w) (F3 : b3 = true → s4 = A8 rr) (F4 : CellB W0 b4 b6 w s1 rl) (F5 : CellB W0 b5 b7 w s2 rr) (F6 : b4 = true → b5 = true → s1 ≠ s2) (F7 : (b6 = true → b4 = true) ∧ (b7 = true → b5 = true)) (hb : Below w.heap.size w w') :
    InvB W0 fr rl rr true b3 b4 b5 b6 b7 (fr s1 s2 (A8 rl) s4) w' := ⟨s1, s2, _, s4, rfl, below_two B hb B.size, fun _ => rfl, F3, F4.below hb, F5.below hb, F6, F7⟩
theorem InvB.call3 {W0 : World} {fr : Value → Value → Value → Value → Act} {rl rr : List UInt8} {b1 b3 b4 b5 b6 b7 : Bool} {s1 s2 s3 s4 : Value} {w w' : World} (B : Below W0.heap.size W0 w) (F1 : b1 = true → s3 = A8 rl) (F4 : CellB W0 b4 b6 w s1 rl) (F5 : CellB W0 b5 b7 w s2 rr) (F6 : b4 = true → b5 = true → s1 ≠ s2) (F7 : (b6 = true → b4 = true) ∧ (b7 = true → b5 = true)) (hb : Below w.heap.size w w') :
    InvB W0 fr rl rr b1 true b4 b5 b6 b7 (fr s1 s2 s3 (A8 rr)) w' := ⟨s1, s2, s3, _, rfl, below_two B hb B.size, F1, fun _ => rfl, F4.below hb, F5.below hb, F6, F7⟩
theorem InvB.alloc4 {W0 : World} {fr : Value → Value → Value → Value → Act} {rl rr : List UInt8} {b1 b3 b5 b6 b7 : Bool} {s1 s2 s3 s4 : Value} {w : World} (B : Below W0.heap.size W0 w) (F1 : b1 = true → s3 = A8 rl) (F3 : b3 = true → s4 = A8 rr) (F5 : CellB W0 b5 b7 w s2 rr) (F7 : (b6 = true → false = true) ∧ (b7 = true → b5 = true)) :
    InvB W0 fr rl rr b1 b3 true b5 b6 b7 (fr (.pointer (some ⟨w.heap.size, 0, none⟩)) s2 s3 s4) (w.alloc (Obj.cells (c8 (z8 32)).toArray 24)) := by
  have hb : Below w.heap.size w (w.alloc (Obj.cells (c8 (z8 32)).toArray 24)) := (Below.refl _ _).alloc (Nat.le_refl _) _
  obtain rfl : b6 = false := by cases b6 with | false => rfl | true => exact (F7.1 rfl).symm
  refine ⟨_, s2, s3, s4, rfl, below_two B hb B.size, F1, F3, fun _ => ⟨_, rfl, B.size, Bk.new w _ _⟩, F5.below hb, ?_, fun _ => rfl, F7.2⟩
  intro _ h5 e
  obtain ⟨g, e2, _, K⟩ := F5 h5
  rw [e2] at e
  injection e with e; injection e with e; injection e with e
  have := K.lt; omega
theorem InvB.alloc5 {W0 : World} {fr : Value → Value → Value → Value → Act} {rl rr : List UInt8} {b1 b3 b4 b6 b7 : Bool} {s1 s2 s3 s4 : Value} {w : World} (B : Below W0.heap.size W0 w) (F1 : b1 = true → s3 = A8 rl) (F3 : b3 = true → s4 = A8 rr) (F4 : CellB W0 b4 b6 w s1 rl) (F7 : (b6 = true → b4 = true) ∧ (b7 = true → false = true)) :
    InvB W0 fr rl rr b1 b3 b4 true b6 b7 (fr s1 (.pointer (some ⟨w.heap.size, 0, none⟩)) s3 s4) (w.alloc (Obj.cells (c8 (z8 32)).toArray 24)) := by
  have hb : Below w.heap.size w (w.alloc (Obj.cells (c8 (z8 32)).toArray 24)) := (Below.refl _ _).alloc (Nat.le_refl _) _
  obtain rfl : b7 = false := by cases b7 with | false => rfl | true => exact (F7.2 rfl).symm
  refine ⟨s1, _, s3, s4, rfl, below_two B hb B.size, F1, F3, F4.below hb, fun _ => ⟨_, rfl, B.size, Bk.new w _ _⟩, ?_, F7.1, fun _ => rfl⟩
  intro h4 _ e
  obtain ⟨g, e2, _, K⟩ := F4 h4
  rw [e2] at e
  injection e with e; injection e with e; injection e with e
  have := K.lt; omega
theorem InvB.store6 {W0 : World} {fr : Value → Value → Value → Value → Act} {rl rr : List UInt8} {b1 b3 b5 b6 b7 : Bool} {g : Nat} {s2 s3 s4 : Value} {w : World} {x : List UInt8} (B : Below W0.heap.size W0 w) (hg : W0.heap.size ≤ g) (K : Bk w g 24 (c8 x)) (hx : x.length = rl.length) (F1 : b1 = true → s3 = A8 rl) (F3 : b3 = true → s4 = A8 rr) (F5 : CellB W0 b5 b7 w s2 rr) (F6 : b5 = true → .pointer (some ⟨g, 0, none⟩) ≠ s2) (F7 : b7 = true → b5 = true) :
    InvB W0 fr rl rr b1 b3 true b5 true b7 (fr (.pointer (some ⟨g, 0, none⟩)) s2 s3 s4) (putAt w ⟨g, 0, none⟩ (c8 rl)) := by
  refine ⟨_, s2, s3, s4, rfl, below_putAt B hg _, F1, F3, fun _ => ⟨_, rfl, hg, K.puts (by simp [hx])⟩, ?_, fun _ h5 => F6 h5, fun _ => rfl, F7⟩
  intro h5
  obtain ⟨g2, e2, h2, K2⟩ := F5 h5
  refine ⟨g2, e2, h2, K2.putFar ?_ _⟩
  intro e
  exact F6 h5 (by rw [e2]; simp at e; simp [e])
theorem InvB.store7 {W0 : World} {fr : Value → Value → Value → Value → Act} {rl rr : List UInt8} {b1 b3 b4 b6 b7 : Bool} {g : Nat} {s1 s3 s4 : Value} {w : World} {x : List UInt8} (B : Below W0.heap.size W0 w) (hg : W0.heap.size ≤ g) (K : Bk w g 24 (c8 x)) (hx : x.length = rr.length) (F1 : b1 = true → s3 = A8 rl) (F3 : b3 = true → s4 = A8 rr) (F4 : CellB W0 b4 b6 w s1 rl) (F6 : b4 = true → s1 ≠ .pointer (some ⟨g, 0, none⟩)) (F7 : b6 = true → b4 = true) :
    InvB W0 fr rl rr b1 b3 b4 true b6 true (fr s1 (.pointer (some ⟨g, 0, none⟩)) s3 s4) (putAt w ⟨g, 0, none⟩ (c8 rr)) := by
  refine ⟨s1, _, s3, s4, rfl, below_putAt B hg _, F1, F3, ?_, fun _ => ⟨_, rfl, hg, K.puts (by simp [hx])⟩, fun h4 _ => F6 h4, F7, fun _ => rfl⟩
  intro h4
  obtain ⟨g2, e2, h2, K2⟩ := F4 h4
  refine ⟨g2, e2, h2, K2.putFar ?_ _⟩
  intro e
  exact F6 h4 (by rw [e2]; simp at e; simp [e])
def InvR (W0 : World) (fr : Value → Value → Value → Value → Act) (rl rr : List UInt8) (listed : Array Bool) (ac : Act) (w : World) : Prop :=
  (∀ j ∈ [0, 2], listed.getD j false = true) ∧ InvB W0 fr rl rr (listed.getD 1 false) (listed.getD 3 false) (listed.getD 4 false) (listed.getD 5 false) (listed.getD 6 false) (listed.getD 7 false) ac w
theorem invR_mark {W0 : World} {fr : Value → Value → Value → Value → Act} {rl rr : List UInt8} {listed : Array Bool} {i : Nat} {ac : Act} {w : World} (hi : i < listed.size) (hq : ∀ j ∈ [0, 2], listed.getD j false = true)
    (h : InvB W0 fr rl rr (if 1 = i then true else listed.getD 1 false) (if 3 = i then true else listed.getD 3 false) (if 4 = i then true else listed.getD 4 false) (if 5 = i then true else listed.getD 5 false) (if 6 = i then true else listed.getD 6 false) (if 7 = i then true else listed.getD 7 false) ac w) : InvR W0 fr rl rr (listed.setIfInBounds i true) ac w := by
  refine ⟨fun j hj => ?_, ?_⟩
  · rw [getD_mark hi]; split
    · rfl
    · exact hq j hj
  · simp only [getD_mark hi]; exact h
end Go.Proofs.Ytlegpkdighoflaa
