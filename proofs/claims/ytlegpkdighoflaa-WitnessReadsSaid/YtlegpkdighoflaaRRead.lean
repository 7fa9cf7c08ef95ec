/- witanref10: Part.read, its state. -/
import Derived.Test.YtlegpkdighoflaaNs
import Derived.Test.YtlegpkdighoflaaRTape
import Derived.Test.YtlegpkdighoflaaRGet
import Derived.Test.YtlegpkdighoflaaWitI
set_option linter.unusedVariables false
set_option linter.unusedSimpArgs false
namespace Go.Proofs.Ytlegpkdighoflaa
open Go Go.RowKit Sh
/-- What a read does to the world: the part's cell, the tape, the nodes' own block alone; the new slice lies there or in a new block. -/
def RK (w w' : World) (gp gt : Nat) (v v' : Value) : Prop := w'.os = w.os ∧ w'.tape = w.tape ∧ w'.output = w.output ∧ w.heap.size ≤ w'.heap.size ∧ (∀ k, k < w.heap.size → k ≠ gp → k ≠ gt → v.ownBlock ≠ some k → w'.heap[k]? = w.heap[k]?) ∧ (v'.ownBlock = v.ownBlock ∨ ∃ g, v'.ownBlock = some g ∧ w.heap.size ≤ g)
theorem RK.of_below {w w' : World} (gp gt : Nat) (v : Value) (hb : Below w.heap.size w w') : RK w w' gp gt v v := ⟨hb.os, hb.tape, hb.output, hb.size, fun k hk _ _ _ => hb.block k hk, .inl rfl⟩
theorem RK.refl (w : World) (gp gt : Nat) (v : Value) : RK w w gp gt v v := RK.of_below gp gt v (Below.refl _ _)
theorem RK.trans {a b c : World} {gp gt : Nat} {u v x : Value} (h : RK a b gp gt u v) (k : RK b c gp gt v x) : RK a c gp gt u x := by
  obtain ⟨h1, h2, h3, h4, h5, h6⟩ := h
  obtain ⟨k1, k2, k3, k4, k5, k6⟩ := k
  refine ⟨k1.trans h1, k2.trans h2, k3.trans h3, Nat.le_trans h4 k4, fun i hi hp ht hv => ?_, ?_⟩
  · refine (k5 i (Nat.lt_of_lt_of_le hi h4) hp ht ?_).trans (h5 i hi hp ht hv)
    rcases h6 with h6 | ⟨g, h6, h7⟩
    · rw [h6]; exact hv
    · rw [h6]; intro e; injection e with e; omega
  · rcases k6 with k6 | ⟨g, k6, k7⟩
    · rcases h6 with h6 | ⟨g, h6, h7⟩
      · exact .inl (k6.trans h6)
      · exact .inr ⟨g, k6.trans h6, h7⟩
    · exact .inr ⟨g, k6, Nat.le_trans h4 k7⟩
theorem RK.of_grown {w w' : World} {gp gt : Nat} {v : Value} {g : Nat} (hg : w.grownBy w' (some g)) (h : g = gp ∨ g = gt ∨ v.ownBlock = some g) : RK w w' gp gt v v :=
  ⟨hg.os, hg.tape, hg.output, hg.size, fun k hk hp ht hv => hg.block k hk (fun e => by
    injection e with e
    rcases h with h | h | h
    · omega
    · omega
    · rw [e] at hv; exact hv h), .inl rfl⟩
theorem RK.bk {w w' : World} {gp gt : Nat} {u v : Value} {g : Nat} {t : TypeId} {cs : List Value} (h : RK w w' gp gt u v) (hk : Bk w g t cs) (hp : g ≠ gp) (ht : g ≠ gt) (hu : u.ownBlock ≠ some g) : Bk w' g t cs ∧ v.ownBlock ≠ some g := by
  have hl := hk.lt
  refine ⟨(h.2.2.2.2.1 g hl hp ht hu).trans hk, ?_⟩
  rcases h.2.2.2.2.2 with h6 | ⟨g', h6, h7⟩
  · rw [h6]; exact hu
  · rw [h6]; intro e; injection e with e; omega
/-- The part that is being read: its nodes, the tape. -/
def RSt (w : World) (base gp gt : Nat) (v : Value) (nds : List NV) (inp : List UInt8) (a : Nat) (bad : Int) : Prop :=
  Bk w gp 62 [v] ∧ NS w base v nds ∧ Tp w gt inp a bad ∧ gp < base ∧ gt < base ∧ gt < gp ∧ base ≤ w.heap.size ∧ nds.length ≤ 100000
section
variable {w w' : World} {base gp gt : Nat} {v : Value} {nds : List NV} {inp : List UInt8} {a : Nat} {bad : Int}
theorem RSt.below (h : RSt w base gp gt v nds inp a bad) (hb : Below w.heap.size w w') : RSt w' base gp gt v nds inp a bad := by
  obtain ⟨h1, h2, h3, h4, h5, h6, h7, h8⟩ := h
  exact ⟨h1.below hb h1.lt, h2.below hb (Nat.le_refl _), h3.below hb h3.lt, h4, h5, h6, Nat.le_trans h7 hb.size, h8⟩
theorem RSt.own (h : RSt w base gp gt v nds inp a bad) : v.ownBlock ≠ some gp ∧ v.ownBlock ≠ some gt := by
  obtain ⟨h1, h2, h3, h4, h5, h6, h7, h8⟩ := h
  exact ⟨fun e => by have := (h2.2.lt gp e).1; omega, fun e => by have := (h2.2.lt gt e).1; omega⟩
/-- A call that changes the tape alone. -/
theorem RSt.tape (h : RSt w base gp gt v nds inp a bad) {a' : Nat} {bad' : Int} (T : Tp w' gt inp a' bad') (g : w.grownBy w' (some gt)) : RSt w' base gp gt v nds inp a' bad' ∧ RK w w' gp gt v v := by
  have ho := h.own
  obtain ⟨h1, h2, h3, h4, h5, h6, h7, h8⟩ := h
  exact ⟨⟨h1.grown g (fun e => by injection e with e; omega), h2.kept g (.inr ho.2), T, h4, h5, h6, Nat.le_trans h7 g.size, h8⟩, RK.of_grown g (.inr (.inl rfl))⟩
theorem Tp.setAt (h : Tp w gt inp a bad) (x : Nat) : Tp (w.setCell ⟨gt, 1, none⟩ (.int .i64 (x : Int))) gt inp x bad :=
  let ⟨v, h1, h2⟩ := h; ⟨v, h1.set_ 1 _, h2.grown (grown_setc _ _ _ _) (Nat.le_of_lt h1.lt)⟩
theorem Tp.setBad (h : Tp w gt inp a bad) (x : Int) : Tp (w.setCell ⟨gt, 2, none⟩ (.int .i64 x)) gt inp a x :=
  let ⟨v, h1, h2⟩ := h; ⟨v, h1.set_ 2 _, h2.grown (grown_setc _ _ _ _) (Nat.le_of_lt h1.lt)⟩
theorem RSt.grow (h : RSt w base gp gt v nds inp a bad) {w4 : World} {u4 : Value} {y : NV} (hn : nds.length < 100000) (N : NS w4 base u4 (nds ++ [y])) (hb : Below base w w4) (hg : w.grownBy w4 v.ownBlock) (hu : u4.ownBlock = v.ownBlock ∨ ∃ g, u4.ownBlock = some g ∧ w.heap.size ≤ g) :
    RSt (w4.setCell ⟨gp, 0, none⟩ u4) base gp gt u4 (nds ++ [y]) inp a bad ∧ RK w (w4.setCell ⟨gp, 0, none⟩ u4) gp gt v u4 := by
  obtain ⟨h1, h2, h3, h4, h5, h6, h7, h8⟩ := h
  have K := h1.below hb h4
  have G := grown_setc w4 gp 0 u4
  have T4 := h3.below hb h5
  obtain ⟨tv, t1, t2⟩ := T4
  refine ⟨⟨K.set_ 0 u4, N.kept G (.inr fun e => by have := (N.2.lt gp e).1; omega), ⟨tv, t1.grown G (fun e => by injection e with e; omega), t2.below ?_⟩, h4, h5, h6, by have := hg.size; have := G.size; omega, by simp; omega⟩, ?_⟩
  · exact ⟨G.os, G.tape, G.output, G.size, fun k hk => G.block k (by have := t1.lt; omega) (fun e => by injection e with e; omega)⟩
  · refine ⟨G.os.trans hg.os, G.tape.trans hg.tape, G.output.trans hg.output, Nat.le_trans hg.size G.size, fun k hk hp ht hv => (G.block k (Nat.lt_of_lt_of_le hk hg.size) (fun e => hp (by injection e))).trans (hg.block k hk (Ne.symm hv)), hu⟩
end
theorem NS.some {w : World} {base : Nat} {v : Value} {nds : List NV} (h : NS w base v nds) (hp : 0 < nds.length) : ∃ gn c, v = .slice (some ⟨gn, 0, none⟩) nds.length c ∧ base ≤ gn ∧ nds.length ≤ c ∧ c ≤ 9223372036854775807 := by
  obtain ⟨gn, c, tl, e, h1, _, h2, _⟩ := h.block hp
  obtain ⟨A, c', e', _, h3⟩ := h.form
  rw [e] at e'
  injection e' with _ _ e'
  exact ⟨gn, c, e, h1, h2, by omega⟩
section
variable {w w' : World} {base gp gt gn c : Nat} {nds : List NV} {inp : List UInt8} {a : Nat} {bad : Int}
theorem RSt.nodes (h : RSt w base gp gt (.slice (some ⟨gn, 0, none⟩) nds.length c) nds inp a bad) (hp : 0 < nds.length) : ∃ tl, ND w gn nds tl ∧ base ≤ gn ∧
    ∀ (W : World) (nds' : List NV), (∀ x ∈ nds', x.Ok) → nds'.length = nds.length → Bk W gn 67 (nflat nds' ++ tl) → NS W base (.slice (some ⟨gn, 0, none⟩) nds.length c) nds' := by
  obtain ⟨g', c', tl, e, h1, h2, h3, h4⟩ := h.2.1.block hp
  injection e with e1 e2 e3
  injection e1 with e1
  injection e1 with e1
  subst e1 e3
  exact ⟨tl, h2, h1, h4⟩
theorem ok_set {nds : List NV} (h : ∀ x ∈ nds, x.Ok) {y : NV} (hy : y.Ok) (i : Nat) : ∀ x ∈ nds.set i y, x.Ok := fun x hx => by
  rcases List.mem_or_eq_of_mem_set hx with h1 | h1
  · exact h x h1
  · subst h1; exact hy
/-- One cell of a node is set. -/
theorem RSt.setc (h : RSt w base gp gt (.slice (some ⟨gn, 0, none⟩) nds.length c) nds inp a bad) {i : Nat} {x y : NV} (hx : nds[i]? = some x) (hy : y.Ok) {j : Nat} {u : Value} (hj : j < 67) (e : y.cells = x.cells.take j ++ [u] ++ x.cells.drop (j + [u].length)) :
    RSt (w.setCell ⟨gn, i * 67 + j, none⟩ u) base gp gt (.slice (some ⟨gn, 0, none⟩) nds.length c) (nds.set i y) inp a bad ∧ RK w (w.setCell ⟨gn, i * 67 + j, none⟩ u) gp gt (.slice (some ⟨gn, 0, none⟩) nds.length c) (.slice (some ⟨gn, 0, none⟩) nds.length c) := by
  have hil := (List.getElem?_eq_some_iff.1 hx).1
  obtain ⟨tl, h1, h2, h3⟩ := h.nodes (by omega)
  have h4 := h1.setc hx hy hj e
  have B : Below base w (w.setCell ⟨gn, i * 67 + j, none⟩ u) := (Below.refl _ _).setCell h2 _
  obtain ⟨k1, k2, k3, k4, k5, k6, k7, k8⟩ := h
  exact ⟨⟨k1.below B k4, h3 _ _ (ok_set h1.1 hy i) (by simp) h4, k3.below B k5, k4, k5, k6, Nat.le_trans k7 B.size, by simpa using k8⟩, RK.of_grown (grown_setc _ _ _ _) (.inr (.inr rfl))⟩
theorem grown_putc (w : World) (g o : Nat) (vs : List Value) : w.grownBy (putAt w ⟨g, o, none⟩ vs) (some g) := by
  have h := below_putAt (B := g) (a := ⟨g, o, none⟩) (Below.refl g w) (Nat.le_refl g) vs
  exact ⟨h.os, h.tape, h.output, h.size, fun k hk hne => heap_setCells _ _ _ _ _ (fun e => hne (by rw [e]))⟩
theorem RSt.putc (h : RSt w base gp gt (.slice (some ⟨gn, 0, none⟩) nds.length c) nds inp a bad) {i : Nat} {x y : NV} (hx : nds[i]? = some x) (hy : y.Ok) {j : Nat} {vs : List Value} (hj : j + vs.length ≤ 67) (e : y.cells = x.cells.take j ++ vs ++ x.cells.drop (j + vs.length)) :
    RSt (putAt w ⟨gn, i * 67 + j, none⟩ vs) base gp gt (.slice (some ⟨gn, 0, none⟩) nds.length c) (nds.set i y) inp a bad ∧ RK w (putAt w ⟨gn, i * 67 + j, none⟩ vs) gp gt (.slice (some ⟨gn, 0, none⟩) nds.length c) (.slice (some ⟨gn, 0, none⟩) nds.length c) := by
  have hil := (List.getElem?_eq_some_iff.1 hx).1
  obtain ⟨tl, h1, h2, h3⟩ := h.nodes (by omega)
  have h4 := h1.putc hx hy hj e
  have B : Below base w (putAt w ⟨gn, i * 67 + j, none⟩ vs) := below_putAt (Below.refl _ _) h2 _
  obtain ⟨k1, k2, k3, k4, k5, k6, k7, k8⟩ := h
  exact ⟨⟨k1.below B k4, h3 _ _ (ok_set h1.1 hy i) (by simp) h4, k3.below B k5, k4, k5, k6, Nat.le_trans k7 B.size, by simpa using k8⟩, RK.of_grown (grown_putc _ _ _ _) (.inr (.inr rfl))⟩
end
section
variable {w : World} {base : Nat} {v : Value} {nds : List NV} {ops : Array Oper} {rest : List Oper} {o : Oper} {a : Act} {Q : Exit → Act → World → Prop}
/-- append(nodes, x): the node first lies in a block of its own. -/
theorem appN (hgd : o.guard = none) (s x : Operand) (ho : o.op = .call { callee := .builtin .append, args := #[s, x], argTypes := #[60, 60] })
    (hs : a.eval s = v) (hown : NS w base v nds) (y : NV) (hy : y.Ok) {N : Nat} (hx : a.eval x = .slice (some ⟨N, 0, none⟩) 1 1) (hN : w.heap.size = N) (hsz : nds.length ≤ 1099511627) (hb : base ≤ w.heap.size)
    (h : ∀ gn c w', nds.length + 1 ≤ c → c ≤ 9223372036854775807 → NS w' base (.slice (some ⟨gn, 0, none⟩) (nds.length + 1) c) (nds ++ [y]) → Below base w w' → w.grownBy w' v.ownBlock → ((Value.slice (some ⟨gn, 0, none⟩) (nds.length + 1) c).ownBlock = v.ownBlock ∨ ∃ g, (Value.slice (some ⟨gn, 0, none⟩) (nds.length + 1) c).ownBlock = some g ∧ w.heap.size ≤ g) → wpList Try.prog ops Q rest (a.put o.dst (.slice (some ⟨gn, 0, none⟩) (nds.length + 1) c)) w') : wpList Try.prog ops Q (o :: rest) a (w.alloc (.cells y.cells.toArray 67)) := by
  subst hN
  have hB := Bk.new w 67 y.cells
  have hown' := hown.below ((Below.refl _ _).alloc (Nat.le_refl _) (.cells y.cells.toArray 67)) (Nat.le_refl _)
  have hal : w.grownBy (w.alloc (.cells y.cells.toArray 67)) v.ownBlock := ⟨rfl, rfl, rfl, by simp, fun k hk _ => Below.heap_alloc _ _ _ hk⟩
  refine appR 60 (ndV ndz) 88 Try.underlying60 infoN (by simp [ndV, Value.cells, NV.len ndz_ok]) (by decide) (by decide) hgd s x ho hs hown'.2 (some ⟨w.heap.size, 0, none⟩) 1 1 hx y.cells (by rw [NV.len hy]) 0 (w.heap.size + 1) (.inr ⟨w.heap.size, 0, rfl, Nat.zero_le _, by omega, fun j u hj => by rw [Nat.zero_add]; exact hB.at_ hj⟩) y.one (by omega) (by simp; omega) ?_
  intro A c w' hc1 hc2 ho' hb' hg' hat'
  have hN' : NS w' base (.slice A (nds.length + 1) c) (nds ++ [y]) := ⟨fun q hq => by
      rcases List.mem_append.1 hq with hq | hq
      · exact hown.1 q hq
      · simp at hq; subst hq; exact hy, by
    rw [List.length_append, nflat_append, nflat_one]
    exact ho'⟩
  obtain ⟨gn, c', e, _, _, _⟩ := hN'.some (by simp)
  injection e with e1 e2 e3
  subst e1
  refine h gn c w' hc1 hc2 hN' (((Below.refl _ _).alloc hb _).trans hb') (hal.trans hg') ?_
  rcases hat' with e | e
  · exact .inl e
  · exact .inr ⟨_, e, by simp⟩
end
theorem run_nd2 (a b : Int) (w : World) : (Instr.build 67 #[(3, .int .i64 a), (4, .int .i64 b)]).run Try.prog w = .ok (ndV ⟨0, z8 32, z8 32, a, b⟩) w := by kernel_rfl
def nd2Op (w : World) (raw : Result Next) (u v : Value) : Result Next := match u, v with
  | .int .i64 a, .int .i64 b => .ok (.value (ndV ⟨0, z8 32, z8 32, a, b⟩)) w
  | _, _ => raw
@[go_sem ↓ high] theorem build_nd2 (w : World) (ρ : Operand → Value) (dst : Option Tmp) (ty : TypeId) (pos : String) (after : Array Edge) (guard : Option (Nat × Bool)) (x y : Operand) :
    (execOp ρ { dst, op := .build 67 #[(3, x), (4, y)], type := ty, pos, after, guard }).run Try.prog w = nd2Op w (rawOp Try.prog ρ { dst, op := .build 67 #[(3, x), (4, y)], type := ty, pos, after, guard } w) (ρ x) (ρ y) := by
  generalize hx : ρ x = u
  generalize hy : ρ y = v
  unfold nd2Op
  split
  · rename_i a b
    refine exec_build w ρ dst ty pos after guard _ _ _ ?_
    simp only [List.map_toArray, List.map_cons, List.map_nil, hx, hy]
    exact run_nd2 a b w
  · rfl
@[go_sem] theorem nd2Op_lit (w : World) (raw : Result Next) : nd2Op w raw (.int .i64 (-1)) (.int .i64 (-1)) = .ok (.value (ndV nd0)) w := rfl
/-- The nodes of a part as they are laid, the first at place off. -/
def Pt.cnt : Pt → Nat
  | .nd l r => 1 + l.cnt + r.cnt
  | _ => 1
def Pt.lay : Nat → Pt → List NV
  | _, .e => [nd0]
  | _, .lf k v => [⟨1, k, v, -1, -1⟩]
  | off, .nd l r => ⟨2, z8 32, z8 32, ((off + 1 : Nat) : Int), ((off + 1 + l.cnt : Nat) : Int)⟩ :: (l.lay (off + 1) ++ r.lay (off + 1 + l.cnt))
  | _, .hd h => [⟨3, z8 32, h, -1, -1⟩]
theorem Pt.lay_length : ∀ (p : Pt) (off : Nat), (p.lay off).length = p.cnt
  | .e, _ => rfl
  | .lf _ _, _ => rfl
  | .nd l r, off => by simp only [Pt.lay, List.length_cons, List.length_append, Pt.lay_length l, Pt.lay_length r, Pt.cnt]; omega
  | .hd _, _ => rfl
theorem NAt_lay : ∀ (p : Pt) (pre post : List NV) (n : Nat), pre.length = n → NAt (pre ++ (p.lay n ++ post)) n p
  | .e, pre, post, n, hn => ⟨nd0, by subst hn; simp [Pt.lay], rfl⟩
  | .lf k v, pre, post, n, hn => ⟨⟨1, k, v, -1, -1⟩, by subst hn; simp [Pt.lay], rfl, rfl, rfl⟩
  | .nd l r, pre, post, n, hn => by
    obtain ⟨x, hx⟩ : ∃ x : NV, x = ⟨2, z8 32, z8 32, ((n + 1 : Nat) : Int), ((n + 1 + l.cnt : Nat) : Int)⟩ := ⟨_, rfl⟩
    have e1 : pre ++ ((Pt.nd l r).lay n ++ post) = (pre ++ [x]) ++ (l.lay (n + 1) ++ (r.lay (n + 1 + l.cnt) ++ post)) := by subst hx; simp [Pt.lay]
    have e2 : pre ++ ((Pt.nd l r).lay n ++ post) = (pre ++ [x] ++ l.lay (n + 1)) ++ (r.lay (n + 1 + l.cnt) ++ post) := by subst hx; simp [Pt.lay]
    refine ⟨x, n + 1, n + 1 + l.cnt, ?_, by rw [hx], by rw [hx], by rw [hx], ?_, ?_⟩
    · rw [e1, List.append_assoc, List.getElem?_append_right (by omega)]; simp [hn]
    · rw [e1]; exact NAt_lay l (pre ++ [x]) _ _ (by simp [hn])
    · rw [e2]; exact NAt_lay r (pre ++ [x] ++ l.lay (n + 1)) _ _ (by simp [hn, Pt.lay_length]; omega)
  | .hd h, pre, post, n, hn => ⟨⟨3, z8 32, h, -1, -1⟩, by subst hn; simp [Pt.lay], rfl, rfl⟩
theorem Pt.lay_ok : ∀ (p : Pt), p.Wf → ∀ off, ∀ x ∈ p.lay off, x.Ok
  | .e, _, _, x, h => by simp [Pt.lay] at h; subst h; exact nd0_ok
  | .lf k v, hw, _, x, h => by simp [Pt.lay] at h; subst h; exact hw
  | .nd l r, hw, off, x, h => by
    simp only [Pt.lay, List.mem_cons, List.mem_append] at h
    rcases h with rfl | h | h
    · exact ⟨by simp, by simp⟩
    · exact Pt.lay_ok l hw.1 _ x h
    · exact Pt.lay_ok r hw.2 _ x h
  | .hd v, hw, _, x, h => by simp [Pt.lay] at h; subst h; exact ⟨by simp, hw⟩
theorem Pt.cnt_le : ∀ (p : Pt), p.cnt ≤ p.bytes.length
  | .e => by simp [Pt.cnt, Pt.bytes]
  | .lf _ _ => by simp [Pt.cnt, Pt.bytes]
  | .nd l r => by have := Pt.cnt_le l; have := Pt.cnt_le r; simp [Pt.cnt, Pt.bytes]; omega
  | .hd _ => by simp [Pt.cnt, Pt.bytes]
def ReadPost (w : World) (base gp gt : Nat) (v : Value) (nds : List NV) (inp : List UInt8) (a : Nat) (r : Except Nat (Pt × List UInt8)) (e : Ending) (w' : World) : Prop :=
  e = .returned (.int .i64 (nds.length : Int)) ∧ ∃ v' ext a' bad', RSt w' base gp gt v' (nds ++ ext) inp a' bad' ∧ RK w w' gp gt v v' ∧ a ≤ a' ∧ a' ≤ inp.length ∧ 0 < ext.length ∧ ext.length ≤ 1 + 2 * (a' - a) ∧
    (match r with | .ok x => ext = x.1.lay nds.length ∧ x.2 = inp.drop a' ∧ bad' = 0 | .error n => bad' = (n : Int))
set_option maxRecDepth 100000 in
set_option maxHeartbeats 2000000 in
theorem read_bad (base gp gt : Nat) (v : Value) (nds : List NV) (inp : List UInt8) (a : Nat) (bad : Int) (hbad : bad ≠ 0) (way : Value) (w : World) (h : RSt w base gp gt v nds inp a bad) (hnl : nds.length < 100000) :
    Calls Try.prog 18 #[.pointer (some ⟨gp, 0, none⟩), .pointer (some ⟨gt, 0, none⟩), way] w fun e w' => e = .returned (.int .i64 (nds.length : Int)) ∧ ∃ v', RSt w' base gp gt v' (nds ++ [nd0]) inp a bad ∧ RK w w' gp gt v v' := by
  have HS := Lib.hid h
  obtain ⟨h1, h2, h3, h4, h5, h6, h7, h8⟩ := h
  obtain ⟨A, c, rfl, hc1, hc2⟩ := h2.form
  have hne : (bad == 0) = false := beq_eq_false_iff_ne.2 hbad
  have hne2 : (bad != 0) = true := by simp [hbad]
  have p0 := h1.at_ (i := 0) rfl
  have zp := h1.lt
  have zt := h3.lt
  have H2 := Lib.hid h2
  clear h2
  go_enter Try.func18, Try.ntmps18
  go_wp2_with (at_builtin; refine appN rfl _ _ rfl rfl H2.out nd0 nd0_ok rfl rfl (by omega) h7 ?_; intro gn c4 w4 hc4 hc5 hO4 hB4 hg4 ha4; have f4 := (h1.below hB4 h4).frozen 0; have p4 := (h1.below hB4 h4).at_ (i := 0) rfl; have HR := Lib.hid (HS.out.grow hnl hO4 hB4 hg4 ha4); clear hO4 hB4 hg4 ha4)
  obtain ⟨W5, hW5⟩ : ∃ y, y = w4.setCell ⟨gp, 0, none⟩ (.slice (some ⟨gn, 0, none⟩) (nds.length + 1) c4) := ⟨_, rfl⟩
  rw [← hW5] at HR ⊢
  obtain ⟨R5, K5⟩ := HR.out
  obtain ⟨tv, T5, Y5⟩ := R5.2.2.1
  obtain ⟨At, ct, rfl, ht1, ht2, _⟩ := Y5.open_
  have c0 : W5.cell? ⟨gt, 0, none⟩ = some (.slice At inp.length ct) := T5.at_ rfl
  have c1 : W5.cell? ⟨gt, 1, none⟩ = some (.int .i64 (a : Int)) := T5.at_ rfl
  have c2 : W5.cell? ⟨gt, 2, none⟩ = some (.int .i64 bad) := T5.at_ rfl
  have R6 := Lib.hid R5
  clear hW5 HR R5 f4 p4 p0 h1 h3 H2 HS T5 Y5
  go_quiet (fail)
  rename_i nq
  go_wp2_with fail
  go_ret
  exact ⟨rfl, _, R6.out.below (below_drewN (Below.refl _ _) nq), K5.trans (RK.of_below gp gt _ (below_drewN (Below.refl _ _) nq))⟩
end Go.Proofs.Ytlegpkdighoflaa
