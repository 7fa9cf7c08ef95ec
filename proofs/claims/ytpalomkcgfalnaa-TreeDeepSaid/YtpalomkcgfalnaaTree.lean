/- Trees as plain data; how they lie in memory. -/
import Derived.Test.YtpalomkcgfalnaaFirst02
import Derived.Test.YtpalomkcgfalnaaMore
import Derived.Test.YtpalomkcgfalnaaHoist
import Derived.Test.YtpalomkcgfalnaaConcat
set_option linter.unusedVariables false
set_option linter.unusedSimpArgs false
namespace Go.Proofs.Ytpalomkcgfalnaa
open Go Go.RowKit Sh
/-- A tree: empty, a leaf, two sides. -/
inductive Tr where
  | e : Tr
  | lf (k v : List UInt8) : Tr
  | nd (l r : Tr) : Tr
def Tr.root : Tr → List UInt8
  | .e => z8 32
  | .lf k v => sum32 ([0] ++ k ++ v)
  | .nd l r => sum32 ([1] ++ l.root ++ r.root)
def Tr.len : Tr → Nat
  | .e => 0
  | .lf _ _ => 1
  | .nd l r => l.len + r.len
theorem Tr.root_length (t : Tr) : t.root.length = 32 := by cases t <;> simp [Tr.root, length_sum32]
def nodeCells (k v : List UInt8) (l r : Value) (h : List UInt8) (n : Int) : List Value := c8 k ++ (c8 v ++ (l :: r :: (c8 h ++ [.int .i64 n])))
/-- The tree t lies at p, in blocks below B. -/
def At (w : World) (B : Nat) : Tr → Value → Prop
  | .e, p => p = .pointer none
  | .lf k v, p => ∃ g, p = .pointer (some ⟨g, 0, none⟩) ∧ g < B ∧ k.length = 32 ∧ v.length = 32 ∧ Bk w g 112 (nodeCells k v (.pointer none) (.pointer none) (Tr.lf k v).root 1)
  | .nd l r, p => ∃ g pl pr, p = .pointer (some ⟨g, 0, none⟩) ∧ g < B ∧ Bk w g 112 (nodeCells (z8 32) (z8 32) pl pr (Tr.nd l r).root ((l.len : Int) + r.len)) ∧ At w B l pl ∧ At w B r pr
theorem At.form {w : World} {B : Nat} {t : Tr} {p : Value} (h : At w B t p) : ∃ x, p = .pointer x := by
  cases t with
  | e => exact ⟨_, h⟩
  | lf k v => obtain ⟨g, h, _⟩ := h; exact ⟨_, h⟩
  | nd l r => obtain ⟨g, _, _, h, _⟩ := h; exact ⟨_, h⟩
theorem At.below {w w' : World} {B : Nat} : ∀ {t : Tr} {p : Value}, At w B t p → Below B w w' → At w' B t p
  | .e, _, h, _ => h
  | .lf _ _, _, ⟨g, h1, h2, h3, h4, h5⟩, hb => ⟨g, h1, h2, h3, h4, h5.below hb h2⟩
  | .nd _ _, _, ⟨g, pl, pr, h1, h2, h3, h4, h5⟩, hb => ⟨g, pl, pr, h1, h2, h3.below hb h2, At.below h4 hb, At.below h5 hb⟩
theorem Bk.apart {w : World} {g g' : Nat} {t t' : TypeId} {cs cs' : List Value} (h : Bk w g t cs) (h' : Bk w g' t' cs') (ht : t ≠ t') : g ≠ g' := fun e => by
  subst e
  unfold Bk at h h'
  rw [h] at h'
  injection h' with h'
  injection h' with _ h' _
  exact ht h'
/-- A write into a block that holds no node. -/
theorem At.set_ {w : World} {B : Nat} {g : Nat} {T : TypeId} {cs : List Value} (hg : Bk w g T cs) (hT : T ≠ 112) (i : Nat) (u : Value) : ∀ {t : Tr} {p : Value}, At w B t p → At (w.setCell ⟨g, i, none⟩ u) B t p
  | .e, _, h => h
  | .lf _ _, _, ⟨g', h1, h2, h3, h4, h5⟩ => ⟨g', h1, h2, h3, h4, h5.far (Ne.symm (hg.apart h5 hT)) u⟩
  | .nd _ _, _, ⟨g', pl, pr, h1, h2, h3, h4, h5⟩ => ⟨g', pl, pr, h1, h2, h3.far (Ne.symm (hg.apart h3 hT)) u, At.set_ hg hT i u h4, At.set_ hg hT i u h5⟩
theorem At.put_ {w : World} {B : Nat} {g : Nat} {T : TypeId} {cs : List Value} (hg : Bk w g T cs) (hT : T ≠ 112) (i : Nat) (us : List Value) : ∀ {t : Tr} {p : Value}, At w B t p → At (putAt w ⟨g, i, none⟩ us) B t p
  | .e, _, h => h
  | .lf _ _, _, ⟨g', h1, h2, h3, h4, h5⟩ => ⟨g', h1, h2, h3, h4, h5.putFar (Ne.symm (hg.apart h5 hT)) us⟩
  | .nd _ _, _, ⟨g', pl, pr, h1, h2, h3, h4, h5⟩ => ⟨g', pl, pr, h1, h2, h3.putFar (Ne.symm (hg.apart h3 hT)) us, At.put_ hg hT i us h4, At.put_ hg hT i us h5⟩
theorem At.more {w : World} {B B' : Nat} (hB : B ≤ B') : ∀ {t : Tr} {p : Value}, At w B t p → At w B' t p
  | .e, _, h => h
  | .lf _ _, _, ⟨g, h1, h2, h3, h4, h5⟩ => ⟨g, h1, by omega, h3, h4, h5⟩
  | .nd _ _, _, ⟨g, pl, pr, h1, h2, h3, h4, h5⟩ => ⟨g, pl, pr, h1, by omega, h3, At.more hB h4, At.more hB h5⟩
/-! making a variable of an aggregate -/
def boxOp (t : TypeId) (w : World) (raw : Result Next) : Value → Result Next
  | .agg cs => .ok (.value (.pointer (some ⟨w.heap.size, 0, none⟩))) (w.alloc (.cells cs t))
  | _ => raw
@[go_sem] theorem boxOp_A8 (t : TypeId) (w : World) (raw : Result Next) (l : List UInt8) : boxOp t w raw (A8 l) = .ok (.value (.pointer (some ⟨w.heap.size, 0, none⟩))) (w.alloc (.cells (c8 l).toArray t)) := rfl
theorem exec_box {P : Program} (w : World) (ρ : Operand → Value) (dst : Option Tmp) (ty : TypeId) (pos : String) (after : Array Edge) (guard : Option (Nat × Bool)) (t : TypeId) (x : Operand) :
    (execOp ρ { dst, op := .box t x, type := ty, pos, after, guard }).run P w = boxOp t w (rawOp P ρ { dst, op := .box t x, type := ty, pos, after, guard } w) (ρ x) := by
  generalize hv : ρ x = v
  unfold boxOp
  split
  · simp only [execOp, hv]
    rfl
  · rfl
@[go_sem ↓ high] theorem box_h32 (w : World) (ρ : Operand → Value) (dst : Option Tmp) (ty : TypeId) (pos : String) (after : Array Edge) (guard : Option (Nat × Bool)) (x : Operand) :
    (execOp ρ { dst, op := .box 25 x, type := ty, pos, after, guard }).run Try.prog w = boxOp 25 w (rawOp Try.prog ρ { dst, op := .box 25 x, type := ty, pos, after, guard } w) (ρ x) := exec_box w ρ dst ty pos after guard 25 x
/-- A row out of a block that is known whole. -/
theorem Bk.rowMid {w : World} {g : Nat} {t : TypeId} {cs : List Value} (h : Bk w g t cs) (o n : Nat) (hl : o + n ≤ cs.length) : rowAt w ⟨g, o, none⟩ n = some ((cs.drop o).take n) := by
  rw [rowAt_iff]
  refine ⟨by simp; omega, fun j u hj => ?_⟩
  rw [List.getElem?_take] at hj
  split at hj
  · rw [List.getElem?_drop] at hj
    exact h.at_ hj
  · cases hj
section
variable {w : World} {g : Nat} {t : TypeId} {k v hs : List UInt8} {l r : Value} {n : Int}
theorem node_key (h : Bk w g t (nodeCells k v l r hs n)) (hk : k.length = 32) : rowAt w ⟨g, 0, none⟩ 32 = some (c8 k) := by
  have := h.rowMid 0 32 (by simp [nodeCells, hk])
  rw [this]; simp [nodeCells, hk]
theorem node_value (h : Bk w g t (nodeCells k v l r hs n)) (hk : k.length = 32) (hv : v.length = 32) : rowAt w ⟨g, 32, none⟩ 32 = some (c8 v) := by
  have := h.rowMid 32 32 (by simp [nodeCells, hk, hv]; omega)
  rw [this]; simp [nodeCells, hk, hv]
theorem node_hash (h : Bk w g t (nodeCells k v l r hs n)) (hk : k.length = 32) (hv : v.length = 32) (hh : hs.length = 32) : rowAt w ⟨g, 66, none⟩ 32 = some (c8 hs) := by
  have := h.rowMid 66 32 (by simp [nodeCells, hk, hv, hh])
  rw [this]; simp [nodeCells, hk, hv, hh, List.drop_append, List.drop_eq_nil_of_le]
theorem node_left (h : Bk w g t (nodeCells k v l r hs n)) (hk : k.length = 32) (hv : v.length = 32) : w.cell? ⟨g, 64, none⟩ = some l := h.at_ (by simp [nodeCells, hk, hv, List.getElem?_append])
theorem node_right (h : Bk w g t (nodeCells k v l r hs n)) (hk : k.length = 32) (hv : v.length = 32) : w.cell? ⟨g, 65, none⟩ = some r := h.at_ (by simp [nodeCells, hk, hv, List.getElem?_append])
theorem node_count (h : Bk w g t (nodeCells k v l r hs n)) (hk : k.length = 32) (hv : v.length = 32) (hh : hs.length = 32) : w.cell? ⟨g, 98, none⟩ = some (.int .i64 n) := h.at_ (by simp [nodeCells, hk, hv, hh])
end
/-- Three byte slices just made. -/
theorem Parts.three (w : World) (t : TypeId) (x y z : Value) (l m n : List UInt8) (hx : By w 0 w.heap.size x l) (hy : By w 0 w.heap.size y m) (hz : By w 0 w.heap.size z n) : Parts (w.alloc (.cells #[x, y, z] t)) (w.heap.size + 1) (.slice (some ⟨w.heap.size, 0, none⟩) 3 3) [l, m, n] :=
  Parts.build w t [x, y, z] [l, m, n] rfl (by simp) fun i u k hu hk => by
    match i, hu, hk with
    | 0, hu, hk => simp at hu hk; subst hu; subst hk; exact hx
    | 1, hu, hk => simp at hu hk; subst hu; subst hk; exact hy
    | 2, hu, hk => simp at hu hk; subst hu; subst hk; exact hz
    | i + 3, hu, hk => simp at hu
/-- A whole block of bytes as a slice. -/
theorem Bk.whole {w : World} {g : Nat} {t : TypeId} {l : List UInt8} (h : Bk w g t (c8 l)) (n : Nat) (hn : l.length = n) (hm : n ≤ 9223372036854775807) : By w 0 w.heap.size (.slice (some ⟨g, 0, none⟩) n n) l := by
  subst hn
  exact By.mk_ (Nat.le_refl _) (by unfold maxLen; exact hm) (.inr ⟨g, 0, rfl, Nat.zero_le _, h.lt, fun j u hj => by rw [Nat.zero_add]; exact h.at_ hj⟩)
/-! making a struct of its fields -/
def putCells (ct : List Value) (o : Nat) (vs : List Value) : List Value := ct.take o ++ vs ++ ct.drop (o + vs.length)
theorem length_putCells {ct vs : List Value} {o : Nat} (h : o + vs.length ≤ ct.length) : (putCells ct o vs).length = ct.length := by simp [putCells]; omega
theorem fold_put (o : Nat) : ∀ (vs : List Value) (i : Nat) (m : Array Value), o + i + vs.length ≤ m.size → ((vs.zipIdx i).foldl (fun (m : Array Value) (p : Value × Nat) => m.setIfInBounds (o + p.2) p.1) m).toList = putCells m.toList (o + i) vs
  | [], i, m, _ => by simp [putCells]
  | v :: vs, i, m, h => by
    simp only [List.length_cons] at h
    have hl : o + i < m.toList.length := by simp; omega
    rw [List.zipIdx_cons, List.foldl_cons, fold_put o vs (i + 1) _ (by simp; omega)]
    simp only [putCells, Array.toList_setIfInBounds]
    rw [show o + (i + 1) = o + i + 1 by omega, take_set _ _ _ hl, List.drop_set_of_lt (by omega)]
    simp only [List.append_assoc, List.cons_append, List.nil_append, List.length_cons]
    rw [show o + i + 1 + vs.length = o + i + (vs.length + 1) by omega]
def putAll (ct : List Value) : List (Nat × List Value) → List Value
  | [] => ct
  | (o, vs) :: r => putAll (putCells ct o vs) r
/-- The parts' places, sizes and cells. -/
def fits (place : Nat → Option (Nat × Nat)) (n : Nat) : List (Nat × Value) → List (Nat × List Value) → Prop
  | [], [] => True
  | (i, v) :: r, (o, vs) :: q => place i = some (o, vs.length) ∧ v.cells = vs.toArray ∧ o + vs.length ≤ n ∧ fits place n r q
  | _, _ => False
theorem fill_fits (place : Nat → Option (Nat × Nat)) : ∀ (parts : List (Nat × Value)) (q : List (Nat × List Value)) (ct : List Value), fits place ct.length parts q → Instr.fill place ct.toArray parts = some (putAll ct q).toArray
  | [], [], ct, _ => rfl
  | (i, v) :: r, (o, vs) :: q, ct, h => by
    obtain ⟨h1, h2, h3, h4⟩ := h
    unfold Instr.fill
    simp only [h1, h2, List.size_toArray]
    rw [if_neg (by simp; omega)]
    have e : (vs.toArray.zipIdx.foldl (fun (m : Array Value) (p : Value × Nat) => m.setIfInBounds (o + p.2) p.1) ct.toArray) = (putCells ct o vs).toArray := by
      apply Array.ext'
      have := fold_put o vs 0 ct.toArray (by simpa using h3)
      simpa using this
    rw [e]
    exact fill_fits place r q _ (by rw [length_putCells h3]; exact h4)
  | [], _ :: _, _, h => h.elim
  | _ :: _, [], _, h => h.elim
def placesOf (fields : Array Field) : Sem (Array (Nat × Nat)) := fields.mapM fun f => do pure (f.offset, ← sizeOf f.type)
def fieldsOf (P : Program) (t : TypeId) : Array Field := match P.underlying t with | some (.struct fs) => fs | _ => #[]
theorem run_build_struct {P : Program} {t : TypeId} {fields : Array Field} {zero : Value} {places : Array (Nat × Nat)} (hu : P.underlying t = some (.struct fields)) (hz : (P.info? t).bind (·.zero) = some zero)
    (w : World) (hp : (placesOf fields).run P w = .ok places w) (parts : Array (Nat × Value)) (q : List (Nat × List Value))
    (hf : fits (places[·]?) zero.cells.toList.length parts.toList q) : (Instr.build t parts).run P w = .ok (.agg (putAll zero.cells.toList q).toArray) w := by
  have h0 : (zeroValue t).run P w = .ok zero w := by
    cases hq : P.info? t with
    | none => simp [hq] at hz
    | some i =>
      have hz' : i.zero = some zero := by simpa [hq] using hz
      simp [zeroValue, typeInfo, hq, hz']
  have h1 := fill_fits (places[·]?) parts.toList q zero.cells.toList hf
  unfold Instr.build
  simp only [Sem.run_bind, h0, Result.andThen_ok, run_underlying hu]
  unfold placesOf at hp
  rw [hp]
  simp only [Result.andThen_ok]
  simp only [Array.toArray_toList] at h1
  rw [h1]
  rfl
/-- A node's value. -/
def NodeV (k v : List UInt8) (l r : Option Addr) (h : List UInt8) (n : Int) : Value := .agg (nodeCells k v (.pointer l) (.pointer r) h n).toArray
@[go_sem] theorem boxOp_node (t : TypeId) (w : World) (raw : Result Next) (k v : List UInt8) (l r : Option Addr) (h : List UInt8) (n : Int) : boxOp t w raw (NodeV k v l r h n) = .ok (.value (.pointer (some ⟨w.heap.size, 0, none⟩))) (w.alloc (.cells (nodeCells k v (.pointer l) (.pointer r) h n).toArray t)) := rfl
theorem node_zero : (Try.prog.info? 112).bind (·.zero) = some (NodeV (z8 32) (z8 32) none none (z8 32) 0) := by kernel_rfl
theorem node_fields : Try.prog.underlying 112 = some (.struct (fieldsOf Try.prog 112)) := by kernel_rfl
theorem node_places (w : World) : (placesOf (fieldsOf Try.prog 112)).run Try.prog w = .ok #[(0, 32), (32, 32), (64, 1), (65, 1), (66, 32), (98, 1)] w := by kernel_rfl
noncomputable def nodeOp (w : World) (raw : Result Next) (k v l r h n : Value) : Result Next :=
  match asBytes k, asBytes v, l, r, asBytes h, n with
  | some k, some v, .pointer l, .pointer r, some h, .int .i64 n => if k.length = 32 ∧ v.length = 32 ∧ h.length = 32 then .ok (.value (NodeV k v l r h n)) w else raw
  | _, _, _, _, _, _ => raw
@[go_sem] theorem nodeOp_at (w : World) (raw : Result Next) (k v : List UInt8) (l r : Option Addr) (h : List UInt8) (n : Int) (hk : k.length = 32) (hv : v.length = 32) (hh : h.length = 32) : nodeOp w raw (A8 k) (A8 v) (.pointer l) (.pointer r) (A8 h) (.int .i64 n) = .ok (.value (NodeV k v l r h n)) w := by
  unfold nodeOp
  rw [asBytes_A8, asBytes_A8, asBytes_A8]
  simp [hk, hv, hh]
theorem build_node (k v : List UInt8) (l r : Option Addr) (h : List UInt8) (n : Int) (hk : k.length = 32) (hv : v.length = 32) (hh : h.length = 32) (w : World) (parts : Array (Nat × Value)) (hp : parts.toList = [(0, A8 k), (1, A8 v), (4, A8 h), (5, .int .i64 n)] ∧ l = none ∧ r = none ∨ parts.toList = [(2, .pointer l), (3, .pointer r), (4, A8 h), (5, .int .i64 n)] ∧ k = z8 32 ∧ v = z8 32) :
    (Instr.build 112 parts).run Try.prog w = .ok (NodeV k v l r h n) w := by
  have hz : (NodeV (z8 32) (z8 32) none none (z8 32) 0).cells.toList = nodeCells (z8 32) (z8 32) (.pointer none) (.pointer none) (z8 32) 0 := rfl
  have hl : (nodeCells (z8 32) (z8 32) (.pointer none) (.pointer none) (z8 32) 0).length = 99 := by simp [nodeCells]
  rcases hp with ⟨hp, rfl, rfl⟩ | ⟨hp, rfl, rfl⟩
  · have h1 := run_build_struct node_fields node_zero w (node_places w) parts [(0, c8 k), (32, c8 v), (66, c8 h), (98, [.int .i64 n])] (by
      rw [hz, hl, hp]
      exact ⟨by simp [hk], rfl, by simp [hk], by simp [hv], rfl, by simp [hv], by simp [hh], rfl, by simp [hh], rfl, rfl, by simp, trivial⟩)
    refine h1.trans (congrArg (fun (cs : List Value) => Result.ok (Value.agg cs.toArray) w) ?_)
    rw [hz]
    simp [putAll, putCells, nodeCells, hk, hv, hh, List.take_append, List.drop_append, List.drop_eq_nil_of_le, List.take_of_length_le]
  · have h1 := run_build_struct node_fields node_zero w (node_places w) parts [(64, [.pointer l]), (65, [.pointer r]), (66, c8 h), (98, [.int .i64 n])] (by
      rw [hz, hl, hp]
      exact ⟨rfl, rfl, by simp, rfl, rfl, by simp, by simp [hh], rfl, by simp [hh], rfl, rfl, by simp, trivial⟩)
    refine h1.trans (congrArg (fun (cs : List Value) => Result.ok (Value.agg cs.toArray) w) ?_)
    rw [hz]
    simp [putAll, putCells, nodeCells, hh, List.take_append, List.drop_append, List.drop_eq_nil_of_le, List.take_of_length_le]
section
variable (w : World) (ρ : Operand → Value) (dst : Option Tmp) (ty : TypeId) (pos : String) (after : Array Edge) (guard : Option (Nat × Bool))
theorem exec_build (t : TypeId) (parts : Array (Nat × Operand)) {P : Program} (v : Value) (h : (Instr.build t (parts.map fun (i, x) => (i, ρ x))).run P w = .ok v w) :
    (execOp ρ { dst, op := .build t parts, type := ty, pos, after, guard }).run P w = .ok (.value v) w := by
  unfold execOp
  simp only [Sem.run_bind]
  rw [h]
  rfl
set_option maxRecDepth 100000 in
@[go_sem ↓ high] theorem build_node_leaf (x y z c : Operand) :
    (execOp ρ { dst, op := .build 112 #[(0, x), (1, y), (4, z), (5, c)], type := ty, pos, after, guard }).run Try.prog w = nodeOp w (rawOp Try.prog ρ { dst, op := .build 112 #[(0, x), (1, y), (4, z), (5, c)], type := ty, pos, after, guard } w) (ρ x) (ρ y) (.pointer none) (.pointer none) (ρ z) (ρ c) := by
  generalize hx : ρ x = a
  generalize hy : ρ y = b
  generalize hz : ρ z = d
  generalize hc : ρ c = e
  unfold nodeOp
  split
  · rename_i k v l r h n h1 h2 h3 h4 h5
    split
    · rename_i hl
      cases of_asBytes h1
      cases of_asBytes h2
      cases of_asBytes h5
      injection h3 with h3
      injection h4 with h4
      refine exec_build w ρ dst ty pos after guard _ _ _ (build_node k v l r h n hl.1 hl.2.1 hl.2.2 w _ (.inl ⟨?_, h3.symm, h4.symm⟩))
      simp [hx, hy, hz, hc]
    · rfl
  · rfl
set_option maxRecDepth 100000 in
@[go_sem ↓ high] theorem build_node_inner (x y z c : Operand) :
    (execOp ρ { dst, op := .build 112 #[(2, x), (3, y), (4, z), (5, c)], type := ty, pos, after, guard }).run Try.prog w = nodeOp w (rawOp Try.prog ρ { dst, op := .build 112 #[(2, x), (3, y), (4, z), (5, c)], type := ty, pos, after, guard } w) (A8 (z8 32)) (A8 (z8 32)) (ρ x) (ρ y) (ρ z) (ρ c) := by
  generalize hx : ρ x = a
  generalize hy : ρ y = b
  generalize hz : ρ z = d
  generalize hc : ρ c = e
  unfold nodeOp
  split
  · rename_i k v l r h n h1 h2 h5
    split
    · rename_i hl
      rw [asBytes_A8] at h1 h2
      cases of_asBytes h5
      injection h1 with h1
      injection h2 with h2
      refine exec_build w ρ dst ty pos after guard _ _ _ (build_node k v l r h n hl.1 hl.2.1 hl.2.2 w _ (.inr ⟨?_, h1.symm, h2.symm⟩))
      simp [hx, hy, hz, hc]
    · rfl
  · rfl
@[go_sem ↓ high] theorem build_h32_zero :
    (execOp ρ { dst, op := .build 25 #[], type := ty, pos, after, guard }).run Try.prog w = .ok (.value (A8 (z8 32))) w :=
  exec_build w ρ dst ty pos after guard _ _ (A8 (z8 32)) (by kernel_rfl)
@[go_sem ↓ high] theorem box_node (x : Operand) :
    (execOp ρ { dst, op := .box 112 x, type := ty, pos, after, guard }).run Try.prog w = boxOp 112 w (rawOp Try.prog ρ { dst, op := .box 112 x, type := ty, pos, after, guard } w) (ρ x) := exec_box w ρ dst ty pos after guard 112 x
end
end Go.Proofs.Ytpalomkcgfalnaa
