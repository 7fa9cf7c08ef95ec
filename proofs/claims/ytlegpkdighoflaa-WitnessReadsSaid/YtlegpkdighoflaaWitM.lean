/- witanref10.Cut: the bytes of a part of pairs for keys, by definition. -/
import Derived.Test.YtlegpkdighoflaaWitE
set_option linter.unusedVariables false
set_option linter.unusedSimpArgs false
namespace Go.Proofs.Ytlegpkdighoflaa
open Go Go.RowKit Sh
theorem hs_own' {W : World} {base : Nat} {T : TypeId} {v : Value} {n : Nat} {ks : List (List UInt8)} (h : W.ownsRow base T 32 v n (c8 ks.flatten)) (hn : ks.length = n) (hk : ∀ k ∈ ks, k.length = 32) : Hs W base W.heap.size v ks := by
  obtain ⟨A, c, rfl, h1, h2⟩ := ownsRow_form h
  subst hn
  exact ⟨hk, A, c, rfl, h1, by unfold maxLen; exact h2, ownsRow_rd h⟩
theorem Hs.less {w : World} {lo lo' B : Nat} {v : Value} {l : List (List UInt8)} (h : Hs w lo B v l) (hB : lo' ≤ lo) : Hs w lo' B v l := let ⟨h0, A, c, h1, h2, h3, h4⟩ := h; ⟨h0, A, c, h1, h2, h3, h4.less hB⟩
theorem Own8.build (w : World) (l : List UInt8) (hl : l.length ≤ 1000000) : Own8 (w.alloc (.cells (l.map v8).toArray 5)) w.heap.size (.slice (some ⟨w.heap.size, 0, none⟩) l.length l.length) l :=
  ⟨by simp, .inr ⟨w.heap.size, l.length, (l.map v8).toArray, rfl, Nat.le_refl _, heap_alloc_new w _, Nat.le_refl _, by simp only [maxLen]; omega, by simp, by simp [List.take_of_length_le]⟩⟩
def Tr.cutB (t : Tr) (ks : List (List UInt8)) (d : Nat) : List UInt8 := (t.cut ks d).bytes
def subT (l r : Tr) (b : Bool) : Tr := if b then r else l
def keysOf (ks : List (List UInt8)) (d : Nat) (b : Bool) : List (List UInt8) := ks.filter fun x => kbit x d == b
def cutS (l r : Tr) (ks : List (List UInt8)) (d : Nat) (b : Bool) : List UInt8 := (subT l r b).cutB (keysOf ks d b) (d + 1)
def cutO (l r : Tr) (ks : List (List UInt8)) (d : Nat) : Nat → List UInt8
  | 0 => [2]
  | 1 => [2] ++ cutS l r ks d false
  | _ => ([2] ++ cutS l r ks d false) ++ cutS l r ks d true
theorem keys_yes {ks : List (List UInt8)} {d : Nat} {b : Bool} {k : List UInt8} (h : kbit k d = b) : keysOf (ks ++ [k]) d b = keysOf ks d b ++ [k] := by simp [keysOf, List.filter_append, h]
theorem keys_no {ks : List (List UInt8)} {d : Nat} {b : Bool} {k : List UInt8} (h : (kbit k d == b) = false) : keysOf (ks ++ [k]) d b = keysOf ks d b := by simp [keysOf, List.filter_append]; simpa using h
theorem side_no' {b : Bool} {d : Nat} {m : List Pr} {q : Pr} (h : (kbit q.1 d == b) = false) : side b d (m ++ [q]) = side b d m := by simp [side, List.filter_append]; simpa using h
theorem cut_nd {l r : Tr} {ks : List (List UInt8)} {d : Nat} (h : 0 < ks.length) : Tr.cutB (.nd l r) ks d = cutO l r ks d 2 := by
  have hie : ks.isEmpty = false := by cases ks with | nil => simp at h | cons _ _ => rfl
  simp only [Tr.cutB, Tr.cut, hie, if_false, Bool.false_eq_true, Pt.bytes, cutO, cutS, subT, keysOf]
  simp
theorem sub_pairs {l r : Tr} {d : Nat} {P : Nat → Bool} (ok : Ok d P (.nd l r)) (b : Bool) : side b d (Tr.nd l r).pairs = (subT l r b).pairs := by
  cases b
  · exact side_l ok
  · exact side_r ok
def OwnK (w : World) (base : Nat) (v : Value) (ks : List (List UInt8)) : Prop := (∀ k ∈ ks, k.length = 32) ∧ w.ownsRow base 24 32 v ks.length (c8 ks.flatten)
theorem OwnK.nil (w : World) (base : Nat) : OwnK w base (.slice none 0 0) [] := ⟨by simp, World.ownsRow_nil w base _ _⟩
theorem OwnK.below {w w' : World} {base B : Nat} {v : Value} {ks : List (List UInt8)} (h : OwnK w base v ks) (hb : Below B w w') (hB : w.heap.size ≤ B) : OwnK w' base v ks := ⟨h.1, ownsRow_below h.2 hb hB⟩
theorem OwnK.hs {w : World} {base : Nat} {v : Value} {ks : List (List UInt8)} (h : OwnK w base v ks) : Hs w base w.heap.size v ks := hs_own' h.2 rfl h.1
theorem OwnK.form {w : World} {base : Nat} {v : Value} {ks : List (List UInt8)} (h : OwnK w base v ks) : ∃ A c, v = .slice A ks.length c ∧ ks.length ≤ c ∧ c ≤ 9223372036854775807 := ownsRow_form h.2
section
variable {w : World} {base : Nat} {v : Value} {ks : List (List UInt8)} {ops : Array Oper} {rest : List Oper} {o : Oper} {a : Act} {Q : Exit → Act → World → Prop}
/-- append(ks, k): the key first lies in a block of its own. -/
theorem appK (hgd : o.guard = none) (s x : Operand) (ho : o.op = .call { callee := .builtin .append, args := #[s, x], argTypes := #[23, 23] })
    (hs : a.eval s = v) (hown : OwnK w base v ks) (k : List UInt8) (hk : k.length = 32) (m : List UInt8) (hm : m = k) {N : Nat} (hx : a.eval x = .slice (some ⟨N, 0, none⟩) 1 1) (hN : w.heap.size = N) (hsz : ks.length ≤ 1099511627) (hb : base ≤ w.heap.size)
    (h : ∀ A c w', OwnK w' base (.slice A (ks.length + 1) c) (ks ++ [k]) → Below base w w' → wpList Try.prog ops Q rest (a.put o.dst (.slice A (ks.length + 1) c)) w') : wpList Try.prog ops Q (o :: rest) a (w.alloc (.cells (c8 m).toArray 24)) := by
  subst hm hN
  have hB := Bk.new w 24 (c8 m)
  have hown' := hown.below ((Below.refl _ _).alloc (Nat.le_refl _) (.cells (c8 m).toArray 24)) (Nat.le_refl _)
  refine appR 23 (A8 (z8 32)) 32 Try.underlying23 infoH (by simp [A8, Value.cells]) (by decide) (by decide) hgd s x ho hs hown'.2 (some ⟨w.heap.size, 0, none⟩) 1 1 hx (c8 m) (by simp [hk]) 0 (w.heap.size + 1) (.inr ⟨w.heap.size, 0, rfl, Nat.zero_le _, by omega, fun j u hj => by rw [Nat.zero_add]; exact hB.at_ hj⟩) (by intro u hu; obtain ⟨y, _, rfl⟩ := List.mem_map.1 hu; rfl) (by omega) (by simp; omega) ?_
  intro A c w' _ _ ho' hb' _ _
  refine h A c w' ⟨fun q hq => ?_, ?_⟩ (((Below.refl _ _).alloc hb _).trans hb')
  · rcases List.mem_append.1 hq with hq | hq
    · exact hown.1 q hq
    · simp at hq; subst hq; exact hk
  · have e : c8 (ks ++ [m]).flatten = c8 ks.flatten ++ c8 m := by simp [c8]
    rw [e, List.length_append]
    exact ho'
end
theorem cutB_size {t : Tr} {d : Nat} {P : Nat → Bool} (ok : Ok d P t) (hd : d ≤ 256) (ks : List (List UInt8)) : (t.cutB ks d).length ≤ 33 + t.len * 4417 := by
  have h := View.size (view_cut t ks d) ok hd
  have h2 : t.len * (65 + 17 * (256 - d)) ≤ t.len * 4417 := Nat.mul_le_mul_left _ (by omega)
  unfold Tr.cutB
  omega
end Go.Proofs.Ytlegpkdighoflaa
