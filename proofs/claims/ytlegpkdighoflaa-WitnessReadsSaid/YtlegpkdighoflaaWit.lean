/- witness: parts, their values, root. -/
import Derived.Test.YtlegpkdighoflaaMapT
import Derived.Test.YtlegpkdighoflaaOwnR
import Derived.Test.YtlegpkdighoflaaNodes
import Derived.Outline
set_option linter.unusedVariables false
set_option linter.unusedSimpArgs false
namespace Go.Proofs.Ytlegpkdighoflaa
open Go Go.RowKit Sh
theorem sizeLf : (Try.prog.info? 75).map (·.size) = some 64 := by kernel_rfl
theorem zeroLf : ((Try.prog.info? 75).bind (·.zero)) = some (A8 (z8 64)) := by kernel_rfl
theorem fieldsLf : Try.prog.underlying 75 = some (.struct (fieldsOf Try.prog 75)) := by kernel_rfl
theorem placesLf (w : World) : (placesOf (fieldsOf Try.prog 75)).run Try.prog w = .ok #[(0, 32), (32, 32)] w := by kernel_rfl
theorem sizeHd : (Try.prog.info? 73).map (·.size) = some 32 := by kernel_rfl
theorem zeroHd : ((Try.prog.info? 73).bind (·.zero)) = some (A8 (z8 32)) := by kernel_rfl
theorem fieldsHd : Try.prog.underlying 73 = some (.struct (fieldsOf Try.prog 73)) := by kernel_rfl
theorem placesHd (w : World) : (placesOf (fieldsOf Try.prog 73)).run Try.prog w = .ok #[(0, 32)] w := by kernel_rfl
section
variable (w : World) (ρ : Operand → Value) (dst : Option Tmp) (ty : TypeId) (pos : String) (after : Array Edge) (guard : Option (Nat × Bool))
@[go_sem ↓ high] theorem load_leaf (x : Operand) :
    (execOp ρ { dst, op := .load 75 x, type := ty, pos, after, guard }).run Try.prog w = loadOp 64 w (rawOp Try.prog ρ { dst, op := .load 75 x, type := ty, pos, after, guard } w) (ρ x) :=
  exec_load w ρ dst ty pos after guard 75 64 _ x (by decide) fieldsLf rfl sizeLf
@[go_sem ↓ high] theorem store_leaf (x y : Operand) :
    (execOp ρ { dst, op := .store 75 x y, type := ty, pos, after, guard }).run Try.prog w = storeOp 64 w (rawOp Try.prog ρ { dst, op := .store 75 x y, type := ty, pos, after, guard } w) (ρ x) (ρ y) :=
  exec_store w ρ dst ty pos after guard 75 64 x y (by decide) sizeLf
@[go_sem ↓ high] theorem alloc_leaf :
    (execOp ρ { dst, op := .alloc 75, type := ty, pos, after, guard }).run Try.prog w = .ok (.value (.pointer (some ⟨w.heap.size, 0, none⟩))) (w.alloc (.cells (c8 (z8 64)).toArray 75)) :=
  exec_alloc w ρ dst ty pos after guard 75 (A8 (z8 64)) zeroLf
@[go_sem ↓ high] theorem box_leaf (x : Operand) :
    (execOp ρ { dst, op := .box 75 x, type := ty, pos, after, guard }).run Try.prog w = boxOp 75 w (rawOp Try.prog ρ { dst, op := .box 75 x, type := ty, pos, after, guard } w) (ρ x) := exec_box w ρ dst ty pos after guard 75 x
@[go_sem ↓ high] theorem load_hidden (x : Operand) :
    (execOp ρ { dst, op := .load 73 x, type := ty, pos, after, guard }).run Try.prog w = loadOp 32 w (rawOp Try.prog ρ { dst, op := .load 73 x, type := ty, pos, after, guard } w) (ρ x) :=
  exec_load w ρ dst ty pos after guard 73 32 _ x (by decide) fieldsHd rfl sizeHd
@[go_sem ↓ high] theorem store_hidden (x y : Operand) :
    (execOp ρ { dst, op := .store 73 x y, type := ty, pos, after, guard }).run Try.prog w = storeOp 32 w (rawOp Try.prog ρ { dst, op := .store 73 x y, type := ty, pos, after, guard } w) (ρ x) (ρ y) :=
  exec_store w ρ dst ty pos after guard 73 32 x y (by decide) sizeHd
@[go_sem ↓ high] theorem alloc_hidden :
    (execOp ρ { dst, op := .alloc 73, type := ty, pos, after, guard }).run Try.prog w = .ok (.value (.pointer (some ⟨w.heap.size, 0, none⟩))) (w.alloc (.cells (c8 (z8 32)).toArray 73)) :=
  exec_alloc w ρ dst ty pos after guard 73 (A8 (z8 32)) zeroHd
@[go_sem ↓ high] theorem box_hidden (x : Operand) :
    (execOp ρ { dst, op := .box 73 x, type := ty, pos, after, guard }).run Try.prog w = boxOp 73 w (rawOp Try.prog ρ { dst, op := .box 73 x, type := ty, pos, after, guard } w) (ρ x) := exec_box w ρ dst ty pos after guard 73 x
end
theorem run_leaf (k v : List UInt8) (hk : k.length = 32) (hv : v.length = 32) (w : World) : (Instr.build 75 #[(0, A8 k), (1, A8 v)]).run Try.prog w = .ok (A8 (pb (k, v))) w := by
  have hz : (A8 (z8 64)).cells.toList = c8 (z8 64) := rfl
  have hl : (c8 (z8 64)).length = 64 := by simp
  have h1 := run_build_struct fieldsLf zeroLf w (placesLf w) #[(0, A8 k), (1, A8 v)] [(0, c8 k), (32, c8 v)] (by
    rw [hz, hl]
    exact ⟨by simp [hk], rfl, by simp [hk], by simp [hv], rfl, by simp [hv], trivial⟩)
  refine h1.trans (congrArg (fun (cs : List Value) => Result.ok (Value.agg cs.toArray) w) ?_)
  rw [hz]
  simp [putAll, putCells, hk, hv, List.take_append, List.drop_append, List.drop_eq_nil_of_le, List.take_of_length_le, pb, c8]
@[go_sem ↓ high] theorem build_leaf (w : World) (ρ : Operand → Value) (dst : Option Tmp) (ty : TypeId) (pos : String) (after : Array Edge) (guard : Option (Nat × Bool)) (x y : Operand) :
    (execOp ρ { dst, op := .build 75 #[(0, x), (1, y)], type := ty, pos, after, guard }).run Try.prog w = pairOp w (rawOp Try.prog ρ { dst, op := .build 75 #[(0, x), (1, y)], type := ty, pos, after, guard } w) (ρ x) (ρ y) := by
  generalize hx : ρ x = a
  generalize hy : ρ y = b
  unfold pairOp
  split
  · rename_i k v h1 h2
    replace h1 := of_asBytes h1
    replace h2 := of_asBytes h2
    split
    · rename_i h
      refine exec_build w ρ dst ty pos after guard _ _ _ ?_
      simp only [List.map_toArray, List.map_cons, List.map_nil, hx, hy, h1, h2]
      exact run_leaf k v h.1 h.2 w
    · rfl
  · rfl
noncomputable def hidOp (w : World) (raw : Result Next) (k : Value) : Result Next :=
  match asBytes k with
  | some k => if k.length = 32 then .ok (.value (A8 k)) w else raw
  | _ => raw
@[go_sem] theorem hidOp_at (w : World) (raw : Result Next) (k : List UInt8) (hk : k.length = 32) : hidOp w raw (A8 k) = .ok (.value (A8 k)) w := by
  unfold hidOp
  rw [asBytes_A8]
  simp [hk]
theorem run_hidden (k : List UInt8) (hk : k.length = 32) (w : World) : (Instr.build 73 #[(0, A8 k)]).run Try.prog w = .ok (A8 k) w := by
  have hz : (A8 (z8 32)).cells.toList = c8 (z8 32) := rfl
  have hl : (c8 (z8 32)).length = 32 := by simp
  have h1 := run_build_struct fieldsHd zeroHd w (placesHd w) #[(0, A8 k)] [(0, c8 k)] (by
    rw [hz, hl]
    exact ⟨by simp [hk], rfl, by simp [hk], trivial⟩)
  refine h1.trans (congrArg (fun (cs : List Value) => Result.ok (Value.agg cs.toArray) w) ?_)
  rw [hz]
  simp [putAll, putCells, hk, List.take_append, List.drop_append, List.drop_eq_nil_of_le, List.take_of_length_le, c8]
@[go_sem ↓ high] theorem build_hidden (w : World) (ρ : Operand → Value) (dst : Option Tmp) (ty : TypeId) (pos : String) (after : Array Edge) (guard : Option (Nat × Bool)) (x : Operand) :
    (execOp ρ { dst, op := .build 73 #[(0, x)], type := ty, pos, after, guard }).run Try.prog w = hidOp w (rawOp Try.prog ρ { dst, op := .build 73 #[(0, x)], type := ty, pos, after, guard } w) (ρ x) := by
  generalize hx : ρ x = a
  unfold hidOp
  split
  · rename_i k h1
    replace h1 := of_asBytes h1
    split
    · rename_i h
      refine exec_build w ρ dst ty pos after guard _ _ _ ?_
      simp only [List.map_toArray, List.map_cons, List.map_nil, hx, h1]
      exact run_hidden k h w
    · rfl
  · rfl
/-- A part of a tree. -/
inductive Pt | e | lf (k v : List UInt8) | nd (l r : Pt) | hd (h : List UInt8)
def Pt.val : Pt → Value
  | .e => .nilIface
  | .lf k v => .iface 75 (A8 (pb (k, v)))
  | .nd l r => .iface 70 (.agg #[l.val, r.val])
  | .hd h => .iface 73 (A8 h)
theorem Pt.one : ∀ p : Pt, p.val.oneCell' = true
  | .e => rfl
  | .lf _ _ => rfl
  | .nd _ _ => rfl
  | .hd _ => rfl
@[go_sem ↓ high] theorem Pt.cells_val : ∀ p : Pt, p.val.cells = #[p.val]
  | .e => rfl
  | .lf _ _ => rfl
  | .nd _ _ => rfl
  | .hd _ => rfl
@[go_sem] theorem run_store_pt {P : Program} {w : World} {a : Addr} {m : Mode} (p : Pt) : (store a p.val m).run P w = stored P w a p.val m := run_store P w a _ m p.one
def Pt.root : Pt → List UInt8
  | .e => z8 32
  | .lf k v => sum32 ([0] ++ k ++ v)
  | .nd l r => sum32 ([1] ++ l.root ++ r.root)
  | .hd h => h
/-- Its bytes' lengths. -/
def Pt.Wf : Pt → Prop
  | .e => True
  | .lf k v => k.length = 32 ∧ v.length = 32
  | .nd l r => l.Wf ∧ r.Wf
  | .hd h => h.length = 32
theorem Pt.root_length : ∀ {p : Pt}, p.Wf → p.root.length = 32
  | .e, _ => by simp [Pt.root]
  | .lf k v, _ => by simp [Pt.root, length_sum32]
  | .nd l r, _ => by simp [Pt.root, length_sum32]
  | .hd h, hw => hw
@[go_sem] theorem nil_leaf (n : Nat) (v : Value) (w : World) : (nilAhead (n + 1) 75 v "witan/witness.root").run Try.prog w = .ok (some false) w := by kernel_rfl
@[go_sem] theorem meth_leaf (n : Nat) (v : Value) (w : World) : (method (n + 1) 75 v "witan/witness.root").run Try.prog w = .ok (77, v) w := by kernel_rfl
@[go_sem] theorem nil_hidden (n : Nat) (v : Value) (w : World) : (nilAhead (n + 1) 73 v "witan/witness.root").run Try.prog w = .ok (some false) w := by kernel_rfl
@[go_sem] theorem meth_hidden (n : Nat) (v : Value) (w : World) : (method (n + 1) 73 v "witan/witness.root").run Try.prog w = .ok (76, v) w := by kernel_rfl
@[go_sem] theorem nil_inner (n : Nat) (v : Value) (w : World) : (nilAhead (n + 1) 70 v "witan/witness.root").run Try.prog w = .ok (some false) w := by kernel_rfl
@[go_sem] theorem meth_inner (n : Nat) (v : Value) (w : World) : (method (n + 1) 70 v "witan/witness.root").run Try.prog w = .ok (75, v) w := by kernel_rfl
@[go_sem] theorem as_leaf_leaf (v : Value) (w : World) : (Instr.typeAssert (.iface 75 v) 29 75 true).run Try.prog w = .ok (.tuple #[v, .bool true]) w := by kernel_rfl
@[go_sem] theorem as_leaf_inner (v : Value) (w : World) : (Instr.typeAssert (.iface 70 v) 29 75 true).run Try.prog w = .ok (.tuple #[A8 (z8 64), .bool false]) w := by kernel_rfl
@[go_sem] theorem as_leaf_hidden (v : Value) (w : World) : (Instr.typeAssert (.iface 73 v) 29 75 true).run Try.prog w = .ok (.tuple #[A8 (z8 64), .bool false]) w := by kernel_rfl
@[go_sem] theorem as_leaf_nil (w : World) : (Instr.typeAssert .nilIface 29 75 true).run Try.prog w = .ok (.tuple #[A8 (z8 64), .bool false]) w := by kernel_rfl
@[go_sem] theorem as_inner_leaf (v : Value) (w : World) : (Instr.typeAssert (.iface 75 v) 29 70 true).run Try.prog w = .ok (.tuple #[.agg #[.nilIface, .nilIface], .bool false]) w := by kernel_rfl
@[go_sem] theorem as_inner_inner (v : Value) (w : World) : (Instr.typeAssert (.iface 70 v) 29 70 true).run Try.prog w = .ok (.tuple #[v, .bool true]) w := by kernel_rfl
@[go_sem] theorem as_inner_hidden (v : Value) (w : World) : (Instr.typeAssert (.iface 73 v) 29 70 true).run Try.prog w = .ok (.tuple #[.agg #[.nilIface, .nilIface], .bool false]) w := by kernel_rfl
@[go_sem] theorem as_inner_nil (w : World) : (Instr.typeAssert .nilIface 29 70 true).run Try.prog w = .ok (.tuple #[.agg #[.nilIface, .nilIface], .bool false]) w := by kernel_rfl
@[go_sem] theorem as_hidden_leaf (v : Value) (w : World) : (Instr.typeAssert (.iface 75 v) 29 73 true).run Try.prog w = .ok (.tuple #[A8 (z8 32), .bool false]) w := by kernel_rfl
@[go_sem] theorem as_hidden_inner (v : Value) (w : World) : (Instr.typeAssert (.iface 70 v) 29 73 true).run Try.prog w = .ok (.tuple #[A8 (z8 32), .bool false]) w := by kernel_rfl
@[go_sem] theorem as_hidden_hidden (v : Value) (w : World) : (Instr.typeAssert (.iface 73 v) 29 73 true).run Try.prog w = .ok (.tuple #[v, .bool true]) w := by kernel_rfl
@[go_sem] theorem as_hidden_nil (w : World) : (Instr.typeAssert .nilIface 29 73 true).run Try.prog w = .ok (.tuple #[A8 (z8 32), .bool false]) w := by kernel_rfl
def InvQ (qs : List Nat) (i1 i2 i3 i4 i5 i6 : Nat) (W0 : World) (fr : Value → Value → Value → Value → Act) (rl rr : List UInt8) (listed : Array Bool) (ac : Act) (w : World) : Prop :=
  (∀ j ∈ qs, listed.getD j false = true) ∧ InvB W0 fr rl rr (listed.getD i1 false) (listed.getD i2 false) (listed.getD i3 false) (listed.getD i4 false) (listed.getD i5 false) (listed.getD i6 false) ac w
theorem invQ_mark {qs : List Nat} {i1 i2 i3 i4 i5 i6 : Nat} {W0 : World} {fr : Value → Value → Value → Value → Act} {rl rr : List UInt8} {listed : Array Bool} {i : Nat} {ac : Act} {w : World} (hi : i < listed.size) (hq : ∀ j ∈ qs, listed.getD j false = true)
    (h : InvB W0 fr rl rr (if i1 = i then true else listed.getD i1 false) (if i2 = i then true else listed.getD i2 false) (if i3 = i then true else listed.getD i3 false) (if i4 = i then true else listed.getD i4 false) (if i5 = i then true else listed.getD i5 false) (if i6 = i then true else listed.getD i6 false) ac w) : InvQ qs i1 i2 i3 i4 i5 i6 W0 fr rl rr (listed.setIfInBounds i true) ac w := by
  refine ⟨fun j hj => ?_, ?_⟩
  · rw [getD_mark hi]; split
    · rfl
    · exact hq j hj
  · simp only [getD_mark hi]; exact h
set_option maxRecDepth 100000 in
theorem hidden_root (h : List UInt8) (hh : h.length = 32) (w : World) : Calls Try.prog 76 #[A8 h] w fun e w' => e = .returned (A8 (Pt.hd h).root) ∧ Below w.heap.size w w' := by
  obtain ⟨w0, hw0⟩ : ∃ x, x = (w.alloc (Obj.cells (c8 h).toArray 73)).alloc (Obj.cells (c8 (z8 32)).toArray 24) := ⟨_, rfl⟩
  have B0 : Below w.heap.size w w0 := by rw [hw0]; exact ((Below.refl _ _).alloc (Nat.le_refl _) _).alloc (by simp) _
  have R0 : Bk w0 (w.heap.size + 1) 24 (c8 (z8 32)) := by rw [hw0]; simpa using Bk.new (w.alloc (Obj.cells (c8 h).toArray 73)) 24 (c8 (z8 32))
  go_enter Try.func76, Try.ntmps76
  go_wp2_with fail
  rw [← hw0]
  exact bodyPost_ret (results_row rfl _ _ _ _ _ _ rfl (R0.puts (vs := c8 h) (by simp [hh])) Try.underlying24 rfl (by simp [info_h32, hh])) rfl ⟨rfl, below_putAt B0 (by simp) _⟩
set_option maxRecDepth 100000 in
theorem leaf_root (k v : List UInt8) (hk : k.length = 32) (hv : v.length = 32) (w : World) : Calls Try.prog 77 #[A8 (pb (k, v))] w fun e w' => e = .returned (A8 (Pt.lf k v).root) ∧ Below w.heap.size w w' := by
  have hl : (pb (k, v)).length = 64 := PrOk.len ⟨hk, hv⟩
  have hroot : sum32 [[0], k, v].flatten = (Pt.lf k v).root := by simp [Pt.root]
  have Hroot := Lib.hid hroot
  have hrl := Pt.root_length (p := .lf k v) ⟨hk, hv⟩
  generalize (Pt.lf k v).root = rt at *
  clear hroot
  go_enter Try.func77, Try.ntmps77
  go_wp2_with fail
  obtain ⟨W0, hW0⟩ : ∃ x, x = (w.alloc (Obj.cells (c8 (pb (k, v))).toArray 75)).alloc (Obj.cells (c8 (z8 32)).toArray 24) := ⟨_, rfl⟩
  rw [← hW0]
  have P0' : Bk W0 w.heap.size 75 (c8 (pb (k, v))) := by rw [hW0]; exact (Bk.new w _ _).alloc _
  have R0' : Bk W0 (w.heap.size + 1) 24 (c8 (z8 32)) := by rw [hW0]; simpa using Bk.new (w.alloc (Obj.cells (c8 (pb (k, v))).toArray 75)) 24 (c8 (z8 32))
  have B0 : Below w.heap.size w W0 := by rw [hW0]; exact ((Below.refl _ _).alloc (Nat.le_refl _) _).alloc (by simp) _
  clear hW0
  have S0 : Below W0.heap.size W0 W0.drew := (Below.refl _ _).drew
  have z0 : w.heap.size + 1 ≤ W0.heap.size := by have := R0'.lt; omega
  refine held_begin (fun W => Below (w.heap.size + 1) W0 W) (by kernel_rfl) ?_
  refine held_quiet (A := ?A1) [1, 2, 3, 4] (by kernel_rfl) (by kernel_rfl) rfl (by kernel_rfl) (by kernel_rfl) (S0.mono z0) (h := fun W hW => ?h1) (hr := ?r1)
  case h1 =>
    simp only [pick, List.getElem?_cons_zero, List.getElem?_cons_succ]
    repeat (go_big_quiet_step (fail))
    refine wpQuiet_nil ?_
    rfl
  case r1 =>
    refine held_one 0 (by kernel_rfl) (by rfl) (by rfl) (fun Q' hQ' => ?_)
    dsimp only [bare]
    go_wp2_with fail
    obtain ⟨W1, hW1⟩ : ∃ x, x = (W0.alloc (Obj.cells #[.int .u8 0] 5)).drew := ⟨_, rfl⟩
    rw [← hW1]
    have S1 : Below W0.heap.size W0 W1 := by rw [hW1]; exact ((Below.refl _ _).alloc (Nat.le_refl _) _).drew
    have y0 : By W1 0 W1.heap.size (.slice (some ⟨W0.heap.size, 0, none⟩) 1 1) [0] := by rw [hW1]; exact (By.build W0 5 (0, 0) [0] (by simp)).more (by simp)
    refine hQ' _ _ (S1.mono z0) ?_
    clear hQ' hW1
    refine held_one 5 (by kernel_rfl) (by rfl) (by rfl) (fun Q' hQ' => ?_)
    dsimp only [bare]
    go_wp2_with fail
    obtain ⟨W2, hW2⟩ : ∃ x, x = W1.alloc (Obj.cells #[.slice (some ⟨W0.heap.size, 0, none⟩) 1 1, .slice (some ⟨w.heap.size, 0, none⟩) 32 32, .slice (some ⟨w.heap.size, 32, none⟩) 32 32] 22) := ⟨_, rfl⟩
    rw [← hW2]
    have P1 := P0'.below S1 P0'.lt
    have yk : By W1 0 W1.heap.size (.slice (some ⟨w.heap.size, 0, none⟩) 32 32) k := By.of_row (pair_key P1 ⟨hk, hv⟩) P1.lt (by omega)
    have yv : By W1 0 W1.heap.size (.slice (some ⟨w.heap.size, 32, none⟩) 32 32) v := By.of_row (pair_val P1 ⟨hk, hv⟩) P1.lt (by omega)
    have p2 : Parts W2 W2.heap.size (.slice (some ⟨W1.heap.size, 0, none⟩) 3 3) [[0], k, v] := by
      rw [hW2]
      have := Parts.three W1 22 _ _ _ _ _ _ y0 yk yv
      simpa using this
    have S2 : Below W0.heap.size W0 W2 := by rw [hW2]; exact S1.alloc S1.size _
    refine hQ' _ _ (S2.mono z0) ?_
    clear hQ' hW2
    refine held_one 6 (by kernel_rfl) (by rfl) (by rfl) (fun Q' hQ' => ?_)
    dsimp only [bare]
    go_wp2_with fail
    refine (sum256_any _ [[0], k, v] W2 p2 (by simp [hk, hv])).mono ?_
    rintro e W3 ⟨rfl, h3⟩
    rw [Hroot.out]
    have S3 := below_two S2 h3 S2.size
    go_wp2_with fail
    refine hQ' _ _ (S3.mono z0) ?_
    clear hQ'
    have R3 := R0'.below S3 R0'.lt
    have hcan : canAt W3 ⟨w.heap.size + 1, 0, none⟩ 32 = true := R3.can (by simp)
    refine held_one 7 (by kernel_rfl) (by rfl) (by rfl) (fun Q' hQ' => ?_)
    dsimp only [bare]
    go_wp2_with fail
    refine hQ' _ _ (below_putAt (S3.mono z0) (by simp) _) ?_
    clear hQ'
    refine held_end (by kernel_rfl) ?_
    go_wp2_with fail
    exact bodyPost_ret (results_row rfl _ _ _ _ _ _ rfl (R3.puts (vs := c8 rt) (by simp [hrl])) Try.underlying24 rfl (by simp [info_h32, hrl])) rfl ⟨rfl, below_putAt (below_two B0 S3 B0.size) (by simp) _⟩
set_option maxRecDepth 100000 in
set_option maxHeartbeats 2000000 in
theorem inner_root (l r : Pt) (hl : l.Wf) (hr : r.Wf) (IHl : ∀ w, Calls Try.prog 19 #[l.val] w fun e w' => e = .returned (A8 l.root) ∧ Below w.heap.size w w') (IHr : ∀ w, Calls Try.prog 19 #[r.val] w fun e w' => e = .returned (A8 r.root) ∧ Below w.heap.size w w') (w : World) :
    Calls Try.prog 75 #[.agg #[l.val, r.val]] w fun e w' => e = .returned (A8 (Pt.nd l r).root) ∧ Below w.heap.size w w' := by
  have hroot : sum32 [[1], l.root, r.root].flatten = (Pt.nd l r).root := by simp [Pt.root]
  have Hroot := Lib.hid hroot
  have hrl := Pt.root_length (p := .nd l r) ⟨hl, hr⟩
  have hl1 := Pt.root_length hl
  have hl2 := Pt.root_length hr
  generalize (Pt.nd l r).root = rt at *
  generalize l.root = rl at *
  generalize r.root = rr at *
  clear hroot
  go_enter Try.func75, Try.ntmps75
  go_wp2_with fail
  obtain ⟨W0, hW0⟩ : ∃ x, x = (w.alloc (Obj.cells #[l.val, r.val] 70)).alloc (Obj.cells (c8 (z8 32)).toArray 24) := ⟨_, rfl⟩
  rw [← hW0]
  have P0' : Bk W0 w.heap.size 70 [l.val, r.val] := by rw [hW0]; exact (Bk.new w _ [l.val, r.val]).alloc _
  have R0' : Bk W0 (w.heap.size + 1) 24 (c8 (z8 32)) := by rw [hW0]; simpa using Bk.new (w.alloc (Obj.cells #[l.val, r.val] 70)) 24 (c8 (z8 32))
  have B0 : Below w.heap.size w W0 := by rw [hW0]; exact ((Below.refl _ _).alloc (Nat.le_refl _) _).alloc (by simp) _
  clear hW0
  generalize l.val = vl at *
  generalize r.val = vr at *
  have S0 : Below W0.heap.size W0 W0.drew := (Below.refl _ _).drew
  refine held_begin (fun W => Below W0.heap.size W0 W) (by kernel_rfl) ?_
  refine held_quiet (A := ?A1) [0, 1, 3, 4] (by kernel_rfl) (by kernel_rfl) rfl (by kernel_rfl) (by kernel_rfl) S0 (h := fun W hW => ?h1) (hr := ?r1)
  case h1 =>
    have P1 := P0'.below hW P0'.lt
    have c0 : W.cell? ⟨w.heap.size, 0, none⟩ = some vl := P1.at_ rfl
    have c1 : W.cell? ⟨w.heap.size, 1, none⟩ = some vr := P1.at_ rfl
    simp only [pick, List.getElem?_cons_zero, List.getElem?_cons_succ]
    repeat (go_big_quiet_step (fail))
    refine wpQuiet_nil ?_
    rfl
  case r1 =>
    refine held_of_inv (InvQ [0, 1, 3, 4] 2 5 6 7 8 9 W0 (fun s3 s4 s7 s10 => ⟨(.agg #[vl, vr] :: .pointer (some ⟨w.heap.size, 0, none⟩) :: .pointer (some ⟨w.heap.size + 1, 0, none⟩) :: s3 :: s4 :: .pointer (some ⟨w.heap.size, 0, none⟩) :: vl :: s7 :: .pointer (some ⟨w.heap.size, 1, none⟩) :: vr :: s10 :: undef :: undef :: undef :: undef :: undef :: []).toArray, []⟩) rl rr) (by kernel_rfl) (fun _ _ _ h => by obtain ⟨_, _, _, _, _, _, h, _⟩ := h; exact h) ?step15 ?end15 (by kernel_rfl) ?init15
    case init15 => exact ⟨by decide, _, _, _, _, rfl, S0, fun h => absurd h (by decide), fun h => absurd h (by decide), fun h => absurd h (by decide), fun h => absurd h (by decide), fun h => absurd h (by decide), fun h => absurd h (by decide), fun h => absurd h (by decide)⟩
    case step15 =>
      intro listed ac w i o hI hsz hi hun hpr K hK
      obtain ⟨hqs, s3, s4, s7, s10, rfl, B, F1, F3, F4, F5, F6, F7⟩ := hI
      have hil : i < 10 := by simpa using (List.getElem?_eq_some_iff.1 hi).1
      have hsz : listed.size = 10 := by simpa using hsz
      have hiq : i = 2 ∨ i = 5 ∨ i = 6 ∨ i = 7 ∨ i = 8 ∨ i = 9 := by
        apply Classical.byContradiction
        intro hn
        exact getD_clash hun (hqs i (by simp; omega))
      have hun2 : listed.getD i false = false := by
        cases h : listed.getD i false with
        | false => rfl
        | true => exact (getD_clash hun h).elim
      rcases hiq with rfl | rfl | rfl | rfl | rfl | rfl
      · cases hi
        refine inv_op (by rfl) rfl (fun Q' hQ' => ?_)
        go_wp2_with fail
        refine (IHl w).mono ?_
        rintro e w' ⟨rfl, hb⟩
        go_wp2_with fail
        refine invQ_mark (by omega) hqs ?_
        exact InvB.call1 (s3 := s7) (b1 := false) B F3 F4 F5 F6 F7 hb
      · cases hi
        refine inv_op (by rfl) rfl (fun Q' hQ' => ?_)
        go_wp2_with fail
        refine (IHr w).mono ?_
        rintro e w' ⟨rfl, hb⟩
        go_wp2_with fail
        refine invQ_mark (by omega) hqs ?_
        exact InvB.call3 (s4 := s10) (b3 := false) B F1 F4 F5 F6 F7 hb
      · cases hi
        refine inv_op (by rfl) rfl (fun Q' hQ' => ?_)
        go_wp2_with fail
        refine invQ_mark (by omega) hqs ?_
        rw [hun2] at F7
        exact InvB.alloc4 (s1 := s3) B F1 F3 F5 F7
      · cases hi
        refine inv_op (by rfl) rfl (fun Q' hQ' => ?_)
        go_wp2_with fail
        refine invQ_mark (by omega) hqs ?_
        rw [hun2] at F7
        exact InvB.alloc5 (s2 := s4) B F1 F3 F4 F7
      · cases hi
        have b1 := hpr ⟨2, .data⟩ (by simp) rfl
        have b4 := hpr ⟨6, .data⟩ (by simp) rfl
        obtain ⟨ga, rfl, hga, Ka⟩ := F4 b4
        obtain rfl := F1 b1
        rw [hun2] at Ka
        simp only [Bool.false_eq_true, if_false] at Ka
        have hca : canAt w ⟨ga, 0, none⟩ 32 = true := Ka.can (by simp)
        refine inv_op (by rfl) rfl (fun Q' hQ' => ?_)
        go_wp2_with fail
        refine invQ_mark (by omega) hqs ?_
        rw [b4] at F6 ⊢
        exact InvB.store6 (x := z8 32) (b6 := false) B hga Ka (by simp [hl1]) (fun _ => rfl) F3 F5 (F6 rfl) F7.2
      · cases hi
        have b3 := hpr ⟨5, .data⟩ (by simp) rfl
        have b5 := hpr ⟨7, .data⟩ (by simp) rfl
        obtain ⟨gb, rfl, hgb, Kb⟩ := F5 b5
        obtain rfl := F3 b3
        rw [hun2] at Kb
        simp only [Bool.false_eq_true, if_false] at Kb
        have hcb : canAt w ⟨gb, 0, none⟩ 32 = true := Kb.can (by simp)
        refine inv_op (by rfl) rfl (fun Q' hQ' => ?_)
        go_wp2_with fail
        refine invQ_mark (by omega) hqs ?_
        rw [b5] at F6 ⊢
        exact InvB.store7 (x := z8 32) (b7 := false) B hgb Kb (by simp [hl2]) F1 (fun _ => rfl) F4 (fun h => F6 h rfl) F7.1
    case end15 =>
      intro listed ac W hI hall
      obtain ⟨hqs, s3, s4, s7, s10, rfl, B, F1, F3, F4, F5, F6, F7⟩ := hI
      obtain ⟨ga, rfl, hga, Ka⟩ := F4 (hall 6 (by simp))
      obtain ⟨gb, rfl, hgb, Kb⟩ := F5 (hall 7 (by simp))
      rw [hall 8 (by simp)] at Ka
      rw [hall 9 (by simp)] at Kb
      obtain rfl := F1 (hall 2 (by simp))
      obtain rfl := F3 (hall 5 (by simp))
      simp only [if_true] at Ka Kb
      have R6 := R0'.below B R0'.lt
      have B6 := below_two B0 B B0.size
      have zga := Ka.lt
      have zgb := Kb.lt
      clear F1 F3 F4 F5 F6 F7 hqs hall S0 P0'
      go_wp2_with fail
      have T0 : Below W.heap.size W W.drew := (Below.refl _ _).drew
      have z0 : w.heap.size + 1 ≤ W.heap.size := by have := R6.lt; omega
      refine held_begin (fun V => Below (w.heap.size + 1) W V) (by kernel_rfl) ?_
      refine held_quiet (A := ?A2) [1, 2] (by kernel_rfl) (by kernel_rfl) rfl (by kernel_rfl) (by kernel_rfl) (T0.mono z0) (h := fun V hV => ?h2) (hr := ?r2)
      case h2 =>
        simp only [pick, List.getElem?_cons_zero, List.getElem?_cons_succ]
        repeat (go_big_quiet_step (fail))
        refine wpQuiet_nil ?_
        rfl
      case r2 =>
        refine held_one 0 (by kernel_rfl) (by rfl) (by rfl) (fun Q' hQ' => ?_)
        dsimp only [bare]
        go_wp2_with fail
        obtain ⟨W1, hW1⟩ : ∃ x, x = (W.alloc (Obj.cells #[.int .u8 1] 5)).drew := ⟨_, rfl⟩
        rw [← hW1]
        have S1 : Below W.heap.size W W1 := by rw [hW1]; exact ((Below.refl _ _).alloc (Nat.le_refl _) _).drew
        have y0 : By W1 0 W1.heap.size (.slice (some ⟨W.heap.size, 0, none⟩) 1 1) [1] := by rw [hW1]; exact (By.build W 5 (0, 0) [1] (by simp)).more (by simp)
        refine hQ' _ _ (S1.mono z0) ?_
        clear hQ' hW1
        refine held_one 3 (by kernel_rfl) (by rfl) (by rfl) (fun Q' hQ' => ?_)
        dsimp only [bare]
        go_wp2_with fail
        obtain ⟨W2, hW2⟩ : ∃ x, x = W1.alloc (Obj.cells #[.slice (some ⟨W.heap.size, 0, none⟩) 1 1, .slice (some ⟨ga, 0, none⟩) 32 32, .slice (some ⟨gb, 0, none⟩) 32 32] 22) := ⟨_, rfl⟩
        rw [← hW2]
        have yk : By W1 0 W1.heap.size (.slice (some ⟨ga, 0, none⟩) 32 32) rl := (Ka.below S1 Ka.lt).whole 32 hl1 (by have := S1.size; omega)
        have yv : By W1 0 W1.heap.size (.slice (some ⟨gb, 0, none⟩) 32 32) rr := (Kb.below S1 Kb.lt).whole 32 hl2 (by have := S1.size; omega)
        have p2 : Parts W2 W2.heap.size (.slice (some ⟨W1.heap.size, 0, none⟩) 3 3) [[1], rl, rr] := by
          rw [hW2]
          have := Parts.three W1 22 _ _ _ _ _ _ y0 yk yv
          simpa using this
        have S2 : Below W.heap.size W W2 := by rw [hW2]; exact S1.alloc S1.size _
        refine hQ' _ _ (S2.mono z0) ?_
        clear hQ' hW2
        refine held_one 4 (by kernel_rfl) (by rfl) (by rfl) (fun Q' hQ' => ?_)
        dsimp only [bare]
        go_wp2_with fail
        refine (sum256_any _ [[1], rl, rr] W2 p2 (by simp [hl1, hl2])).mono ?_
        rintro e W3 ⟨rfl, h3⟩
        rw [Hroot.out]
        have S3 := below_two S2 h3 S2.size
        go_wp2_with fail
        refine hQ' _ _ (S3.mono z0) ?_
        clear hQ'
        have R3 := R6.below S3 R6.lt
        have hcan : canAt W3 ⟨w.heap.size + 1, 0, none⟩ 32 = true := R3.can (by simp)
        refine held_one 5 (by kernel_rfl) (by rfl) (by rfl) (fun Q' hQ' => ?_)
        dsimp only [bare]
        go_wp2_with fail
        refine hQ' _ _ (below_putAt (S3.mono z0) (by simp) _) ?_
        clear hQ'
        refine held_end (by kernel_rfl) ?_
        go_wp2_with fail
        exact bodyPost_ret (results_row rfl _ _ _ _ _ _ rfl (R3.puts (vs := c8 rt) (by simp [hrl])) Try.underlying24 rfl (by simp [info_h32, hrl])) rfl ⟨rfl, below_putAt (below_two B6 S3 B6.size) (by simp) _⟩
set_option maxRecDepth 100000 in
/-- A part's root. -/
theorem proot_any : ∀ (p : Pt), p.Wf → ∀ w : World, Calls Try.prog 19 #[p.val] w fun e w' => e = .returned (A8 p.root) ∧ Below w.heap.size w w'
  | .e, _, w => by
    dsimp only [Pt.val, Pt.root]
    go_enter Try.func19, Try.ntmps19
    go_wp2_with fail
    have R0 : Bk (w.alloc (Obj.cells (c8 (z8 32)).toArray 24)) w.heap.size 24 (c8 (z8 32)) := Bk.new w _ _
    exact bodyPost_ret (results_row rfl _ _ _ _ _ _ rfl (R0.puts (vs := c8 (z8 32)) (by simp)) Try.underlying24 rfl (by simp [info_h32])) rfl ⟨rfl, below_putAt ((Below.refl _ _).alloc (Nat.le_refl _) _) (Nat.le_refl _) _⟩
  | .lf k v, hw, w => by
    dsimp only [Pt.val]
    have hrl := Pt.root_length hw
    have R0 : Bk (w.alloc (Obj.cells (c8 (z8 32)).toArray 24)) w.heap.size 24 (c8 (z8 32)) := Bk.new w _ _
    go_enter Try.func19, Try.ntmps19
    go_wp2_with fail
    refine (leaf_root k v hw.1 hw.2 _).mono ?_
    rintro e w1 ⟨rfl, h1⟩
    have R1 := R0.below h1 R0.lt
    have hcan : canAt w1 ⟨w.heap.size, 0, none⟩ 32 = true := R1.can (by simp)
    have B1 : Below w.heap.size w w1 := ((Below.refl _ _).alloc (Nat.le_refl _) _).trans (h1.mono (by simp))
    go_wp2_with fail
    exact bodyPost_ret (results_row rfl _ _ _ _ _ _ rfl (R1.puts (vs := c8 (Pt.lf k v).root) (by simp [hrl])) Try.underlying24 rfl (by simp [info_h32, hrl])) rfl ⟨rfl, below_putAt B1 (by simp) _⟩
  | .hd h, hw, w => by
    dsimp only [Pt.val]
    have hrl := Pt.root_length (p := .hd h) hw
    have R0 : Bk (w.alloc (Obj.cells (c8 (z8 32)).toArray 24)) w.heap.size 24 (c8 (z8 32)) := Bk.new w _ _
    go_enter Try.func19, Try.ntmps19
    go_wp2_with fail
    refine (hidden_root h hw _).mono ?_
    rintro e w1 ⟨rfl, h1⟩
    have R1 := R0.below h1 R0.lt
    have hcan : canAt w1 ⟨w.heap.size, 0, none⟩ 32 = true := R1.can (by simp)
    have B1 : Below w.heap.size w w1 := ((Below.refl _ _).alloc (Nat.le_refl _) _).trans (h1.mono (by simp))
    go_wp2_with fail
    exact bodyPost_ret (results_row rfl _ _ _ _ _ _ rfl (R1.puts (vs := c8 (Pt.hd h).root) (by simp [hrl])) Try.underlying24 rfl (by simp [info_h32, hrl])) rfl ⟨rfl, below_putAt B1 (by simp) _⟩
  | .nd l r, hw, w => by
    have IHl := proot_any l hw.1
    have IHr := proot_any r hw.2
    dsimp only [Pt.val]
    have hrl := Pt.root_length (p := .nd l r) hw
    have R0 : Bk (w.alloc (Obj.cells (c8 (z8 32)).toArray 24)) w.heap.size 24 (c8 (z8 32)) := Bk.new w _ _
    go_enter Try.func19, Try.ntmps19
    go_wp2_with fail
    refine (inner_root l r hw.1 hw.2 IHl IHr _).mono ?_
    rintro e w1 ⟨rfl, h1⟩
    have R1 := R0.below h1 R0.lt
    have hcan : canAt w1 ⟨w.heap.size, 0, none⟩ 32 = true := R1.can (by simp)
    have B1 : Below w.heap.size w w1 := ((Below.refl _ _).alloc (Nat.le_refl _) _).trans (h1.mono (by simp))
    go_wp2_with fail
    exact bodyPost_ret (results_row rfl _ _ _ _ _ _ rfl (R1.puts (vs := c8 (Pt.nd l r).root) (by simp [hrl])) Try.underlying24 rfl (by simp [info_h32, hrl])) rfl ⟨rfl, below_putAt B1 (by simp) _⟩
end Go.Proofs.Ytlegpkdighoflaa
