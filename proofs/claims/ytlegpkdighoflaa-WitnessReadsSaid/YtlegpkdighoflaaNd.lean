/- witanref10: nodes in a list, their cells. -/
import Derived.Test.YtlegpkdighoflaaOwnR
set_option linter.unusedVariables false
set_option linter.unusedSimpArgs false
namespace Go.Proofs.Ytlegpkdighoflaa
open Go Go.RowKit Sh
/-- A node of the list: kind, key, value, the sides' numbers. -/
structure NV where
  kind : Int
  k : List UInt8
  v : List UInt8
  l : Int
  r : Int
def NV.Ok (x : NV) : Prop := x.k.length = 32 ∧ x.v.length = 32
def NV.cells (x : NV) : List Value := .int .i64 x.kind :: (c8 x.k ++ (c8 x.v ++ [.int .i64 x.l, .int .i64 x.r]))
def ndV (x : NV) : Value := .agg x.cells.toArray
theorem NV.len {x : NV} (h : x.Ok) : x.cells.length = 67 := by simp [NV.cells, h.1, h.2]
theorem NV.one (x : NV) : ∀ u ∈ x.cells, u.oneCell' = true := by
  intro u hu
  simp only [NV.cells, List.mem_cons, List.mem_append, List.not_mem_nil, or_false] at hu
  rcases hu with rfl | hu | hu | rfl | rfl
  · rfl
  · obtain ⟨y, _, rfl⟩ := List.mem_map.1 hu; rfl
  · obtain ⟨y, _, rfl⟩ := List.mem_map.1 hu; rfl
  · rfl
  · rfl
def nd0 : NV := ⟨0, z8 32, z8 32, -1, -1⟩
def ndz : NV := ⟨0, z8 32, z8 32, 0, 0⟩
theorem nd0_ok : nd0.Ok := ⟨by simp [nd0], by simp [nd0]⟩
theorem ndz_ok : ndz.Ok := ⟨by simp [ndz], by simp [ndz]⟩
theorem infoN : (Try.prog.info? 67).map (fun i => (i.zero, i.size, i.bytes)) = some (some (ndV ndz), 67, 88) := by kernel_rfl
theorem sizeN : (Try.prog.info? 67).map (·.size) = some 67 := by kernel_rfl
theorem zeroN : ((Try.prog.info? 67).bind (·.zero)) = some (ndV ndz) := by kernel_rfl
theorem fieldsN : Try.prog.underlying 67 = some (.struct (fieldsOf Try.prog 67)) := by kernel_rfl
theorem run_nd0 (w : World) : (Instr.build 67 #[(3, .int .i64 (-1)), (4, .int .i64 (-1))]).run Try.prog w = .ok (ndV nd0) w := by kernel_rfl
@[go_sem] theorem agg_nd (x : NV) : Value.agg x.cells.toArray = ndV x := rfl
@[go_sem] theorem storeOp_nd (n : Nat) (w : World) (raw : Result Next) (a : Addr) (x : NV) : storeOp n w raw (.pointer (some a)) (ndV x) =
    if x.cells.length = n ∧ canAt w a n = true then .ok .skip (putAt w a x.cells) else raw := by
  have h1 : (x.cells.toArray.all (·.oneCell')) = true := by
    rw [Array.all_eq_true']
    intro u hu
    exact x.one u (by simpa using hu)
  unfold ndV
  rw [storeOp_at, h1]
  simp only [List.size_toArray, true_and]
@[go_sem] theorem oneOp_nd (n : Nat) (t : TypeId) (w : World) (raw : Result Next) (x : NV) : oneOp n t w raw (ndV x) = if x.cells.length = n then .ok (.value (.slice (some ⟨w.heap.size, 0, none⟩) 1 1)) (w.alloc (.cells x.cells.toArray t)) else raw := by
  unfold ndV
  rw [oneOp_agg]
  simp only [List.size_toArray]
section
variable (w : World) (ρ : Operand → Value) (dst : Option Tmp) (ty : TypeId) (pos : String) (after : Array Edge) (guard : Option (Nat × Bool))
@[go_sem ↓ high] theorem load_nd (x : Operand) :
    (execOp ρ { dst, op := .load 67 x, type := ty, pos, after, guard }).run Try.prog w = loadOp 67 w (rawOp Try.prog ρ { dst, op := .load 67 x, type := ty, pos, after, guard } w) (ρ x) :=
  exec_load w ρ dst ty pos after guard 67 67 _ x (by decide) fieldsN rfl sizeN
@[go_sem ↓ high] theorem store_nd (x y : Operand) :
    (execOp ρ { dst, op := .store 67 x y, type := ty, pos, after, guard }).run Try.prog w = storeOp 67 w (rawOp Try.prog ρ { dst, op := .store 67 x y, type := ty, pos, after, guard } w) (ρ x) (ρ y) :=
  exec_store w ρ dst ty pos after guard 67 67 x y (by decide) sizeN
@[go_sem ↓ high] theorem alloc_nd :
    (execOp ρ { dst, op := .alloc 67, type := ty, pos, after, guard }).run Try.prog w = .ok (.value (.pointer (some ⟨w.heap.size, 0, none⟩))) (w.alloc (.cells ndz.cells.toArray 67)) :=
  exec_alloc w ρ dst ty pos after guard 67 (ndV ndz) zeroN
@[go_sem ↓ high] theorem one_nd (x : Operand) :
    (execOp ρ { dst, op := .buildSlice 60 1 #[(0, x)], type := ty, pos, after, guard }).run Try.prog w = oneOp 67 67 w (rawOp Try.prog ρ { dst, op := .buildSlice 60 1 #[(0, x)], type := ty, pos, after, guard } w) (ρ x) :=
  one_of Try.underlying60 infoN (by simp [ndV, Value.cells, NV.len ndz_ok]) (by decide) (by decide) w ρ dst ty pos after guard x
end
/-! ### Lists of nodes -/
def nflat (l : List NV) : List Value := (l.map NV.cells).flatten
theorem nflat_append (l m : List NV) : nflat (l ++ m) = nflat l ++ nflat m := by simp [nflat]
theorem nflat_one (x : NV) : nflat [x] = x.cells := by simp [nflat]
theorem length_nflat {l : List NV} (h : ∀ x ∈ l, x.Ok) : (nflat l).length = l.length * 67 := by
  induction l with
  | nil => rfl
  | cons x l ih =>
    have h1 := ih fun q hq => h q (by simp [hq])
    have h2 := NV.len (h x (by simp))
    simp only [nflat, List.map_cons, List.flatten_cons, List.length_append, List.length_cons] at h1 h2 ⊢
    omega
theorem nflat_at {l : List NV} (h : ∀ x ∈ l, x.Ok) : ∀ {i : Nat} {x : NV}, l[i]? = some x → ((nflat l).drop (i * 67)).take 67 = x.cells := by
  induction l with
  | nil => intro i p hp; simp at hp
  | cons q l ih =>
    intro i p hp
    have h2 := NV.len (h q (by simp))
    cases i with
    | zero =>
      simp at hp; subst hp
      simp only [nflat, List.map_cons, List.flatten_cons, Nat.zero_mul, List.drop_zero]
      rw [← h2, List.take_left]
    | succ i =>
      have := ih (fun q hq => h q (by simp [hq])) (i := i) (x := p) (by simpa using hp)
      simp only [nflat, List.map_cons, List.flatten_cons] at this ⊢
      rw [show (i + 1) * 67 = q.cells.length + i * 67 by omega, ← List.drop_drop, List.drop_left]
      exact this
theorem nflat_set : ∀ {l : List NV} (_ : ∀ x ∈ l, x.Ok) {i : Nat} (y : NV), y.Ok → i < l.length → (nflat l).take (i * 67) ++ y.cells ++ (nflat l).drop (i * 67 + 67) = nflat (l.set i y) := by
  intro l
  induction l with
  | nil => intro _ i x _ hi; simp at hi
  | cons q l ih =>
    intro h i y hy hi
    have hq := NV.len (h q (by simp))
    cases i with
    | zero => simp [nflat, ← hq, List.drop_left]
    | succ i =>
      have := ih (fun k hk => h k (by simp [hk])) (i := i) y hy (by simpa using hi)
      simp only [nflat, List.map_cons, List.flatten_cons, List.set_cons_succ] at this ⊢
      rw [← this]
      have e1 : (i + 1) * 67 = q.cells.length + i * 67 := by omega
      have e2 : (i + 1) * 67 + 67 = q.cells.length + (i * 67 + 67) := by omega
      rw [e2, e1, List.take_append, List.drop_append]
      simp [List.take_of_length_le, List.drop_eq_nil_of_le]
/-- Block g holds these nodes, and then whatever. -/
def ND (w : World) (g : Nat) (l : List NV) (tl : List Value) : Prop := (∀ x ∈ l, x.Ok) ∧ Bk w g 67 (nflat l ++ tl)
section
variable {w : World} {g : Nat} {l : List NV} {tl : List Value} {i : Nat} {x : NV}
theorem ND.cell (h : ND w g l tl) (hx : l[i]? = some x) {j : Nat} {u : Value} (hj : x.cells[j]? = some u) : w.cell? ⟨g, i * 67 + j, none⟩ = some u := by
  have hi := (List.getElem?_eq_some_iff.1 hx).1
  have hl := length_nflat h.1
  have hxl := NV.len (h.1 x (List.mem_of_getElem? hx))
  have hj6 : j < 67 := by have := (List.getElem?_eq_some_iff.1 hj).1; omega
  refine h.2.at_ ?_
  rw [List.getElem?_append_left (by omega)]
  rw [← hj, ← nflat_at h.1 hx]
  simp [List.getElem?_take, List.getElem?_drop, hj6]
theorem ND.sub (h : ND w g l tl) (hx : l[i]? = some x) {j n : Nat} {cs : List Value} (hc : cs.length = n) (hj : ∀ m u, cs[m]? = some u → x.cells[j + m]? = some u) : rowAt w ⟨g, i * 67 + j, none⟩ n = some cs :=
  rowAt_iff.2 ⟨hc, fun m u hm => by rw [Nat.add_assoc]; exact h.cell hx (hj m u hm)⟩
theorem ND.row (h : ND w g l tl) (hx : l[i]? = some x) : rowAt w ⟨g, i * 67, none⟩ 67 = some x.cells := h.sub (j := 0) hx (NV.len (h.1 x (List.mem_of_getElem? hx))) (fun m u hm => by rw [Nat.zero_add]; exact hm)
theorem ND.kind (h : ND w g l tl) (hx : l[i]? = some x) : w.cell? ⟨g, i * 67, none⟩ = some (.int .i64 x.kind) := h.cell (j := 0) hx rfl
theorem ND.key (h : ND w g l tl) (hx : l[i]? = some x) : rowAt w ⟨g, i * 67 + 1, none⟩ 32 = some (c8 x.k) :=
  h.sub hx (by simp [(h.1 x (List.mem_of_getElem? hx)).1]) (fun m u hm => by
    have hm2 := (List.getElem?_eq_some_iff.1 hm).1
    rw [Nat.add_comm, NV.cells, List.getElem?_cons_succ, List.getElem?_append_left hm2]
    exact hm)
theorem ND.value (h : ND w g l tl) (hx : l[i]? = some x) : rowAt w ⟨g, i * 67 + 33, none⟩ 32 = some (c8 x.v) :=
  h.sub hx (by simp [(h.1 x (List.mem_of_getElem? hx)).2]) (fun m u hm => by
    have hm2 := (List.getElem?_eq_some_iff.1 hm).1
    have hk := (h.1 x (List.mem_of_getElem? hx)).1
    rw [show 33 + m = (32 + m) + 1 by omega, NV.cells, List.getElem?_cons_succ, List.getElem?_append_right (by simp [hk]), List.getElem?_append_left (by simp [hk] at hm2 ⊢; exact hm2)]
    simpa [hk] using hm)
theorem ND.left (h : ND w g l tl) (hx : l[i]? = some x) : w.cell? ⟨g, i * 67 + 65, none⟩ = some (.int .i64 x.l) :=
  h.cell hx (by have hk := h.1 x (List.mem_of_getElem? hx); simp [NV.cells, hk.1, hk.2, List.getElem?_append])
theorem ND.right (h : ND w g l tl) (hx : l[i]? = some x) : w.cell? ⟨g, i * 67 + 66, none⟩ = some (.int .i64 x.r) :=
  h.cell hx (by have hk := h.1 x (List.mem_of_getElem? hx); simp [NV.cells, hk.1, hk.2, List.getElem?_append])
theorem ND.below {w' : World} {B : Nat} (h : ND w g l tl) (hb : Below B w w') (hg : g < B) : ND w' g l tl := ⟨h.1, h.2.below hb hg⟩
theorem ND.lt (h : ND w g l tl) : g < w.heap.size := h.2.lt
end
end Go.Proofs.Ytlegpkdighoflaa
