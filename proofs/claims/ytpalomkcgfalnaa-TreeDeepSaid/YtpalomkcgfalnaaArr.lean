/- Arrays of bytes and words as values of the walk: 'A8 l', 'A32 l', 'A64 l' are whole arrays; loads, stores, makings and indexes are single steps. -/
import Derived.Test.YtpalomkcgfalnaaProg
import Derived.Test.YtpalomkcgfalnaaRow
import Derived.Test.YtpalomkcgfalnaaSha
set_option linter.unusedVariables false
set_option linter.unusedSimpArgs false
namespace Go.Proofs.Ytpalomkcgfalnaa
open Go Go.RowKit

def c8 (l : List UInt8) : List Value := l.map v8
def A8 (l : List UInt8) : Value := .agg (c8 l).toArray
def z8 (k : Nat) : List UInt8 := List.replicate k 0
@[simp, go_sem] theorem length_z8 (k : Nat) : (z8 k).length = k := by simp [z8]
@[simp, go_sem] theorem length_c8 (l : List UInt8) : (c8 l).length = l.length := by simp [c8]
theorem c8_at {l : List UInt8} {i : Nat} (h : i < l.length) : (c8 l)[i]? = some (.int .u8 (n8 (Sh.g8 l i))) := by
  unfold c8; rw [List.getElem?_map, List.getElem?_eq_getElem h]; simp [h, v8, Sh.g8]
theorem c8_set (l : List UInt8) (i : Nat) (x : UInt8) : (c8 l).set i (.int .u8 (n8 x)) = c8 (l.set i x) := by
  show (l.map v8).set i (v8 x) = (l.set i x).map v8
  rw [List.map_set]
@[go_sem] theorem fold_A8 (l : List UInt8) : Value.agg (c8 l).toArray = A8 l := rfl
theorem one_c8 (l : List UInt8) : (c8 l).toArray.all (·.oneCell') = true := by simp [c8, v8, Value.oneCell']
@[go_sem] theorem storeOp_A8 (n : Nat) (w : World) (raw : Result Next) (a : Addr) (l : List UInt8) : storeOp n w raw (.pointer (some a)) (A8 l) =
    if l.length = n ∧ canAt w a n = true then .ok .skip (putAt w a (c8 l)) else raw := by
  have e : storeOp n w raw (.pointer (some a)) (A8 l) = if (c8 l).toArray.size = n ∧ (c8 l).toArray.all (·.oneCell') = true ∧ canAt w a n = true then .ok .skip (putAt w a (c8 l).toArray.toList) else raw := rfl
  rw [e, one_c8]
  simp only [List.size_toArray, length_c8, true_and]
def idx8 (n : Nat) (w : World) (raw : Result Next) : Value → Value → Result Next
  | .agg cs, .int _ i => if 0 ≤ i ∧ i < n ∧ cs.size = n ∧ (cs[i.toNat]?).isSome then .ok (.value (cs[i.toNat]?.getD undef)) w else raw
  | _, _ => raw
@[go_sem] theorem idx8_A (n : Nat) (w : World) (raw : Result Next) (k : IntKind) (i : Int) (l : List UInt8) : idx8 n w raw (A8 l) (.int k i) =
    if 0 ≤ i ∧ i < n ∧ l.length = n then .ok (.value (.int .u8 (n8 (Sh.g8 l i.toNat)))) w else raw := by
  have e : idx8 n w raw (A8 l) (.int k i) = if 0 ≤ i ∧ i < n ∧ (c8 l).toArray.size = n ∧ ((c8 l).toArray[i.toNat]?).isSome then .ok (.value ((c8 l).toArray[i.toNat]?.getD undef)) w else raw := rfl
  rw [e]
  unfold c8
  by_cases h : 0 ≤ i ∧ i < n ∧ l.length = n
  · have hl : i.toNat < l.length := by omega
    rw [if_pos h, if_pos (by simp; omega)]
    simp [hl, v8, Sh.g8]
  · rw [if_neg h, if_neg (fun hh => h ⟨hh.1, hh.2.1, by simpa using hh.2.2.1⟩)]
theorem exec_index8 {P : Program} (w : World) (ρ : Operand → Value) (dst : Option Tmp) (ty : TypeId) (pos : String) (after : Array Edge) (guard : Option (Nat × Bool))
    (t e n : TypeId) (x ix : Operand) (hu : P.underlying t = some (.array n e)) (ha : (match P.underlying e with | some (.int _) => true | _ => false) = true) (hi : (P.info? e).map (·.size) = some 1) :
    (execOp ρ { dst, op := .index t x ix, type := ty, pos, after, guard }).run P w = idx8 n w (rawOp P ρ { dst, op := .index t x ix, type := ty, pos, after, guard } w) (ρ x) (ρ ix) := by
  generalize hv : ρ x = v
  generalize hz : ρ ix = z
  unfold idx8
  split
  · rename_i cs kk i
    split
    · rename_i hc
      obtain ⟨h1, h2, h3, h4⟩ := hc
      cases hp : P.underlying e with
      | none => simp [hp] at ha
      | some d =>
        cases d <;> simp [hp] at ha
        cases hq : P.info? e with
        | none => simp [hq] at hi
        | some j =>
          have hj : j.size = 1 := by simpa [hq] using hi
          cases hcs : cs[i.toNat]? with
          | none => rw [hcs] at h4; cases h4
          | some u => simp [execOp, hv, hz, Instr.index, run_underlying hu, asIntOf, h1, h2, sizeOf, typeInfo, hq, hj, part, isAgg, run_underlying hp, hcs]
    · rfl
  · rfl

def c32 (l : List UInt32) : List Value := l.map v32
def A32 (l : List UInt32) : Value := .agg (c32 l).toArray
def z32 (k : Nat) : List UInt32 := List.replicate k 0
@[simp, go_sem] theorem length_z32 (k : Nat) : (z32 k).length = k := by simp [z32]
@[simp, go_sem] theorem length_c32 (l : List UInt32) : (c32 l).length = l.length := by simp [c32]
theorem c32_at {l : List UInt32} {i : Nat} (h : i < l.length) : (c32 l)[i]? = some (.int .u32 (n32 (Sh.g32 l i))) := by
  unfold c32; rw [List.getElem?_map, List.getElem?_eq_getElem h]; simp [h, v32, Sh.g32]
theorem c32_set (l : List UInt32) (i : Nat) (x : UInt32) : (c32 l).set i (.int .u32 (n32 x)) = c32 (l.set i x) := by
  show (l.map v32).set i (v32 x) = (l.set i x).map v32
  rw [List.map_set]
@[go_sem] theorem fold_A32 (l : List UInt32) : Value.agg (c32 l).toArray = A32 l := rfl
theorem one_c32 (l : List UInt32) : (c32 l).toArray.all (·.oneCell') = true := by simp [c32, v32, Value.oneCell']
@[go_sem] theorem storeOp_A32 (n : Nat) (w : World) (raw : Result Next) (a : Addr) (l : List UInt32) : storeOp n w raw (.pointer (some a)) (A32 l) =
    if l.length = n ∧ canAt w a n = true then .ok .skip (putAt w a (c32 l)) else raw := by
  have e : storeOp n w raw (.pointer (some a)) (A32 l) = if (c32 l).toArray.size = n ∧ (c32 l).toArray.all (·.oneCell') = true ∧ canAt w a n = true then .ok .skip (putAt w a (c32 l).toArray.toList) else raw := rfl
  rw [e, one_c32]
  simp only [List.size_toArray, length_c32, true_and]
def idx32 (n : Nat) (w : World) (raw : Result Next) : Value → Value → Result Next
  | .agg cs, .int _ i => if 0 ≤ i ∧ i < n ∧ cs.size = n ∧ (cs[i.toNat]?).isSome then .ok (.value (cs[i.toNat]?.getD undef)) w else raw
  | _, _ => raw
@[go_sem] theorem idx32_A (n : Nat) (w : World) (raw : Result Next) (k : IntKind) (i : Int) (l : List UInt32) : idx32 n w raw (A32 l) (.int k i) =
    if 0 ≤ i ∧ i < n ∧ l.length = n then .ok (.value (.int .u32 (n32 (Sh.g32 l i.toNat)))) w else raw := by
  have e : idx32 n w raw (A32 l) (.int k i) = if 0 ≤ i ∧ i < n ∧ (c32 l).toArray.size = n ∧ ((c32 l).toArray[i.toNat]?).isSome then .ok (.value ((c32 l).toArray[i.toNat]?.getD undef)) w else raw := rfl
  rw [e]
  unfold c32
  by_cases h : 0 ≤ i ∧ i < n ∧ l.length = n
  · have hl : i.toNat < l.length := by omega
    rw [if_pos h, if_pos (by simp; omega)]
    simp [hl, v32, Sh.g32]
  · rw [if_neg h, if_neg (fun hh => h ⟨hh.1, hh.2.1, by simpa using hh.2.2.1⟩)]
theorem exec_index32 {P : Program} (w : World) (ρ : Operand → Value) (dst : Option Tmp) (ty : TypeId) (pos : String) (after : Array Edge) (guard : Option (Nat × Bool))
    (t e n : TypeId) (x ix : Operand) (hu : P.underlying t = some (.array n e)) (ha : (match P.underlying e with | some (.int _) => true | _ => false) = true) (hi : (P.info? e).map (·.size) = some 1) :
    (execOp ρ { dst, op := .index t x ix, type := ty, pos, after, guard }).run P w = idx32 n w (rawOp P ρ { dst, op := .index t x ix, type := ty, pos, after, guard } w) (ρ x) (ρ ix) := by
  generalize hv : ρ x = v
  generalize hz : ρ ix = z
  unfold idx32
  split
  · rename_i cs kk i
    split
    · rename_i hc
      obtain ⟨h1, h2, h3, h4⟩ := hc
      cases hp : P.underlying e with
      | none => simp [hp] at ha
      | some d =>
        cases d <;> simp [hp] at ha
        cases hq : P.info? e with
        | none => simp [hq] at hi
        | some j =>
          have hj : j.size = 1 := by simpa [hq] using hi
          cases hcs : cs[i.toNat]? with
          | none => rw [hcs] at h4; cases h4
          | some u => simp [execOp, hv, hz, Instr.index, run_underlying hu, asIntOf, h1, h2, sizeOf, typeInfo, hq, hj, part, isAgg, run_underlying hp, hcs]
    · rfl
  · rfl

def c64 (l : List UInt64) : List Value := l.map v64
def A64 (l : List UInt64) : Value := .agg (c64 l).toArray
def z64 (k : Nat) : List UInt64 := List.replicate k 0
@[simp, go_sem] theorem length_z64 (k : Nat) : (z64 k).length = k := by simp [z64]
@[simp, go_sem] theorem length_c64 (l : List UInt64) : (c64 l).length = l.length := by simp [c64]
theorem c64_at {l : List UInt64} {i : Nat} (h : i < l.length) : (c64 l)[i]? = some (.int .u64 (n64 (Sh.g64 l i))) := by
  unfold c64; rw [List.getElem?_map, List.getElem?_eq_getElem h]; simp [h, v64, Sh.g64]
theorem c64_set (l : List UInt64) (i : Nat) (x : UInt64) : (c64 l).set i (.int .u64 (n64 x)) = c64 (l.set i x) := by
  show (l.map v64).set i (v64 x) = (l.set i x).map v64
  rw [List.map_set]
@[go_sem] theorem fold_A64 (l : List UInt64) : Value.agg (c64 l).toArray = A64 l := rfl
theorem one_c64 (l : List UInt64) : (c64 l).toArray.all (·.oneCell') = true := by simp [c64, v64, Value.oneCell']
@[go_sem] theorem storeOp_A64 (n : Nat) (w : World) (raw : Result Next) (a : Addr) (l : List UInt64) : storeOp n w raw (.pointer (some a)) (A64 l) =
    if l.length = n ∧ canAt w a n = true then .ok .skip (putAt w a (c64 l)) else raw := by
  have e : storeOp n w raw (.pointer (some a)) (A64 l) = if (c64 l).toArray.size = n ∧ (c64 l).toArray.all (·.oneCell') = true ∧ canAt w a n = true then .ok .skip (putAt w a (c64 l).toArray.toList) else raw := rfl
  rw [e, one_c64]
  simp only [List.size_toArray, length_c64, true_and]
def idx64 (n : Nat) (w : World) (raw : Result Next) : Value → Value → Result Next
  | .agg cs, .int _ i => if 0 ≤ i ∧ i < n ∧ cs.size = n ∧ (cs[i.toNat]?).isSome then .ok (.value (cs[i.toNat]?.getD undef)) w else raw
  | _, _ => raw
@[go_sem] theorem idx64_A (n : Nat) (w : World) (raw : Result Next) (k : IntKind) (i : Int) (l : List UInt64) : idx64 n w raw (A64 l) (.int k i) =
    if 0 ≤ i ∧ i < n ∧ l.length = n then .ok (.value (.int .u64 (n64 (Sh.g64 l i.toNat)))) w else raw := by
  have e : idx64 n w raw (A64 l) (.int k i) = if 0 ≤ i ∧ i < n ∧ (c64 l).toArray.size = n ∧ ((c64 l).toArray[i.toNat]?).isSome then .ok (.value ((c64 l).toArray[i.toNat]?.getD undef)) w else raw := rfl
  rw [e]
  unfold c64
  by_cases h : 0 ≤ i ∧ i < n ∧ l.length = n
  · have hl : i.toNat < l.length := by omega
    rw [if_pos h, if_pos (by simp; omega)]
    simp [hl, v64, Sh.g64]
  · rw [if_neg h, if_neg (fun hh => h ⟨hh.1, hh.2.1, by simpa using hh.2.2.1⟩)]
theorem exec_index64 {P : Program} (w : World) (ρ : Operand → Value) (dst : Option Tmp) (ty : TypeId) (pos : String) (after : Array Edge) (guard : Option (Nat × Bool))
    (t e n : TypeId) (x ix : Operand) (hu : P.underlying t = some (.array n e)) (ha : (match P.underlying e with | some (.int _) => true | _ => false) = true) (hi : (P.info? e).map (·.size) = some 1) :
    (execOp ρ { dst, op := .index t x ix, type := ty, pos, after, guard }).run P w = idx64 n w (rawOp P ρ { dst, op := .index t x ix, type := ty, pos, after, guard } w) (ρ x) (ρ ix) := by
  generalize hv : ρ x = v
  generalize hz : ρ ix = z
  unfold idx64
  split
  · rename_i cs kk i
    split
    · rename_i hc
      obtain ⟨h1, h2, h3, h4⟩ := hc
      cases hp : P.underlying e with
      | none => simp [hp] at ha
      | some d =>
        cases d <;> simp [hp] at ha
        cases hq : P.info? e with
        | none => simp [hq] at hi
        | some j =>
          have hj : j.size = 1 := by simpa [hq] using hi
          cases hcs : cs[i.toNat]? with
          | none => rw [hcs] at h4; cases h4
          | some u => simp [execOp, hv, hz, Instr.index, run_underlying hu, asIntOf, h1, h2, sizeOf, typeInfo, hq, hj, part, isAgg, run_underlying hp, hcs]
    · rfl
  · rfl

@[go_sem] theorem rowAt_new (w : World) (cs : List Value) (t n : Nat) (h : cs.length = n) : rowAt (w.alloc (.cells cs.toArray t)) ⟨w.heap.size, 0, none⟩ n = some cs := by
  subst h; exact (Bk.new w t cs).rows
@[go_sem] theorem canAt_new (w : World) (cs : List Value) (t n : Nat) (h : cs.length = n) : canAt (w.alloc (.cells cs.toArray t)) ⟨w.heap.size, 0, none⟩ n = true := by
  subst h; exact (Bk.new w t cs).can (by omega)


theorem info_h32 : (Try.prog.info? 25).map (·.size) = some 32 := by kernel_rfl
theorem zero_h32 : ((Try.prog.info? 25).bind (·.zero)) = some (A8 (z8 32)) := by kernel_rfl
section
variable (w : World) (ρ : Operand → Value) (dst : Option Tmp) (ty : TypeId) (pos : String) (after : Array Edge) (guard : Option (Nat × Bool))
@[go_sem ↓ high] theorem load_h32 (x : Operand) :
    (execOp ρ { dst, op := .load 25 x, type := ty, pos, after, guard }).run Try.prog w = loadOp 32 w (rawOp Try.prog ρ { dst, op := .load 25 x, type := ty, pos, after, guard } w) (ρ x) :=
  exec_load w ρ dst ty pos after guard 25 32 _ x (by decide) Try.underlying25 rfl info_h32
@[go_sem ↓ high] theorem store_h32 (x y : Operand) :
    (execOp ρ { dst, op := .store 25 x y, type := ty, pos, after, guard }).run Try.prog w = storeOp 32 w (rawOp Try.prog ρ { dst, op := .store 25 x y, type := ty, pos, after, guard } w) (ρ x) (ρ y) :=
  exec_store w ρ dst ty pos after guard 25 32 x y (by decide) info_h32
@[go_sem ↓ high] theorem alloc_h32 :
    (execOp ρ { dst, op := .alloc 25, type := ty, pos, after, guard }).run Try.prog w = .ok (.value (.pointer (some ⟨w.heap.size, 0, none⟩))) (w.alloc (.cells (c8 (z8 32)).toArray 25)) :=
  exec_alloc w ρ dst ty pos after guard 25 (A8 (z8 32)) zero_h32
@[go_sem ↓ high] theorem index_h32 (x ix : Operand) :
    (execOp ρ { dst, op := .index 25 x ix, type := ty, pos, after, guard }).run Try.prog w = idx8 32 w (rawOp Try.prog ρ { dst, op := .index 25 x ix, type := ty, pos, after, guard } w) (ρ x) (ρ ix) :=
  exec_index8 w ρ dst ty pos after guard 25 _ 32 x ix Try.underlying25 (by kernel_rfl) (by kernel_rfl)
end


theorem info_h64 : (Try.prog.info? 27).map (·.size) = some 64 := by kernel_rfl
theorem zero_h64 : ((Try.prog.info? 27).bind (·.zero)) = some (A8 (z8 64)) := by kernel_rfl
section
variable (w : World) (ρ : Operand → Value) (dst : Option Tmp) (ty : TypeId) (pos : String) (after : Array Edge) (guard : Option (Nat × Bool))
@[go_sem ↓ high] theorem load_h64 (x : Operand) :
    (execOp ρ { dst, op := .load 27 x, type := ty, pos, after, guard }).run Try.prog w = loadOp 64 w (rawOp Try.prog ρ { dst, op := .load 27 x, type := ty, pos, after, guard } w) (ρ x) :=
  exec_load w ρ dst ty pos after guard 27 64 _ x (by decide) Try.underlying27 rfl info_h64
@[go_sem ↓ high] theorem store_h64 (x y : Operand) :
    (execOp ρ { dst, op := .store 27 x y, type := ty, pos, after, guard }).run Try.prog w = storeOp 64 w (rawOp Try.prog ρ { dst, op := .store 27 x y, type := ty, pos, after, guard } w) (ρ x) (ρ y) :=
  exec_store w ρ dst ty pos after guard 27 64 x y (by decide) info_h64
@[go_sem ↓ high] theorem alloc_h64 :
    (execOp ρ { dst, op := .alloc 27, type := ty, pos, after, guard }).run Try.prog w = .ok (.value (.pointer (some ⟨w.heap.size, 0, none⟩))) (w.alloc (.cells (c8 (z8 64)).toArray 27)) :=
  exec_alloc w ρ dst ty pos after guard 27 (A8 (z8 64)) zero_h64
@[go_sem ↓ high] theorem index_h64 (x ix : Operand) :
    (execOp ρ { dst, op := .index 27 x ix, type := ty, pos, after, guard }).run Try.prog w = idx8 64 w (rawOp Try.prog ρ { dst, op := .index 27 x ix, type := ty, pos, after, guard } w) (ρ x) (ρ ix) :=
  exec_index8 w ρ dst ty pos after guard 27 _ 64 x ix Try.underlying27 (by kernel_rfl) (by kernel_rfl)
end


theorem info_w8 : (Try.prog.info? 95).map (·.size) = some 8 := by kernel_rfl
theorem zero_w8 : ((Try.prog.info? 95).bind (·.zero)) = some (A32 (z32 8)) := by kernel_rfl
section
variable (w : World) (ρ : Operand → Value) (dst : Option Tmp) (ty : TypeId) (pos : String) (after : Array Edge) (guard : Option (Nat × Bool))
@[go_sem ↓ high] theorem load_w8 (x : Operand) :
    (execOp ρ { dst, op := .load 95 x, type := ty, pos, after, guard }).run Try.prog w = loadOp 8 w (rawOp Try.prog ρ { dst, op := .load 95 x, type := ty, pos, after, guard } w) (ρ x) :=
  exec_load w ρ dst ty pos after guard 95 8 _ x (by decide) Try.underlying95 rfl info_w8
@[go_sem ↓ high] theorem store_w8 (x y : Operand) :
    (execOp ρ { dst, op := .store 95 x y, type := ty, pos, after, guard }).run Try.prog w = storeOp 8 w (rawOp Try.prog ρ { dst, op := .store 95 x y, type := ty, pos, after, guard } w) (ρ x) (ρ y) :=
  exec_store w ρ dst ty pos after guard 95 8 x y (by decide) info_w8
@[go_sem ↓ high] theorem alloc_w8 :
    (execOp ρ { dst, op := .alloc 95, type := ty, pos, after, guard }).run Try.prog w = .ok (.value (.pointer (some ⟨w.heap.size, 0, none⟩))) (w.alloc (.cells (c32 (z32 8)).toArray 95)) :=
  exec_alloc w ρ dst ty pos after guard 95 (A32 (z32 8)) zero_w8
@[go_sem ↓ high] theorem index_w8 (x ix : Operand) :
    (execOp ρ { dst, op := .index 95 x ix, type := ty, pos, after, guard }).run Try.prog w = idx32 8 w (rawOp Try.prog ρ { dst, op := .index 95 x ix, type := ty, pos, after, guard } w) (ρ x) (ρ ix) :=
  exec_index32 w ρ dst ty pos after guard 95 _ 8 x ix Try.underlying95 (by kernel_rfl) (by kernel_rfl)
end


theorem info_w64 : (Try.prog.info? 101).map (·.size) = some 64 := by kernel_rfl
theorem zero_w64 : ((Try.prog.info? 101).bind (·.zero)) = some (A32 (z32 64)) := by kernel_rfl
section
variable (w : World) (ρ : Operand → Value) (dst : Option Tmp) (ty : TypeId) (pos : String) (after : Array Edge) (guard : Option (Nat × Bool))
@[go_sem ↓ high] theorem load_w64 (x : Operand) :
    (execOp ρ { dst, op := .load 101 x, type := ty, pos, after, guard }).run Try.prog w = loadOp 64 w (rawOp Try.prog ρ { dst, op := .load 101 x, type := ty, pos, after, guard } w) (ρ x) :=
  exec_load w ρ dst ty pos after guard 101 64 _ x (by decide) Try.underlying101 rfl info_w64
@[go_sem ↓ high] theorem store_w64 (x y : Operand) :
    (execOp ρ { dst, op := .store 101 x y, type := ty, pos, after, guard }).run Try.prog w = storeOp 64 w (rawOp Try.prog ρ { dst, op := .store 101 x y, type := ty, pos, after, guard } w) (ρ x) (ρ y) :=
  exec_store w ρ dst ty pos after guard 101 64 x y (by decide) info_w64
@[go_sem ↓ high] theorem alloc_w64 :
    (execOp ρ { dst, op := .alloc 101, type := ty, pos, after, guard }).run Try.prog w = .ok (.value (.pointer (some ⟨w.heap.size, 0, none⟩))) (w.alloc (.cells (c32 (z32 64)).toArray 101)) :=
  exec_alloc w ρ dst ty pos after guard 101 (A32 (z32 64)) zero_w64
@[go_sem ↓ high] theorem index_w64 (x ix : Operand) :
    (execOp ρ { dst, op := .index 101 x ix, type := ty, pos, after, guard }).run Try.prog w = idx32 64 w (rawOp Try.prog ρ { dst, op := .index 101 x ix, type := ty, pos, after, guard } w) (ρ x) (ρ ix) :=
  exec_index32 w ρ dst ty pos after guard 101 _ 64 x ix Try.underlying101 (by kernel_rfl) (by kernel_rfl)
end


theorem info_d8 : (Try.prog.info? 97).map (·.size) = some 8 := by kernel_rfl
theorem zero_d8 : ((Try.prog.info? 97).bind (·.zero)) = some (A64 (z64 8)) := by kernel_rfl
section
variable (w : World) (ρ : Operand → Value) (dst : Option Tmp) (ty : TypeId) (pos : String) (after : Array Edge) (guard : Option (Nat × Bool))
@[go_sem ↓ high] theorem load_d8 (x : Operand) :
    (execOp ρ { dst, op := .load 97 x, type := ty, pos, after, guard }).run Try.prog w = loadOp 8 w (rawOp Try.prog ρ { dst, op := .load 97 x, type := ty, pos, after, guard } w) (ρ x) :=
  exec_load w ρ dst ty pos after guard 97 8 _ x (by decide) Try.underlying97 rfl info_d8
@[go_sem ↓ high] theorem store_d8 (x y : Operand) :
    (execOp ρ { dst, op := .store 97 x y, type := ty, pos, after, guard }).run Try.prog w = storeOp 8 w (rawOp Try.prog ρ { dst, op := .store 97 x y, type := ty, pos, after, guard } w) (ρ x) (ρ y) :=
  exec_store w ρ dst ty pos after guard 97 8 x y (by decide) info_d8
@[go_sem ↓ high] theorem alloc_d8 :
    (execOp ρ { dst, op := .alloc 97, type := ty, pos, after, guard }).run Try.prog w = .ok (.value (.pointer (some ⟨w.heap.size, 0, none⟩))) (w.alloc (.cells (c64 (z64 8)).toArray 97)) :=
  exec_alloc w ρ dst ty pos after guard 97 (A64 (z64 8)) zero_d8
@[go_sem ↓ high] theorem index_d8 (x ix : Operand) :
    (execOp ρ { dst, op := .index 97 x ix, type := ty, pos, after, guard }).run Try.prog w = idx64 8 w (rawOp Try.prog ρ { dst, op := .index 97 x ix, type := ty, pos, after, guard } w) (ρ x) (ρ ix) :=
  exec_index64 w ρ dst ty pos after guard 97 _ 8 x ix Try.underlying97 (by kernel_rfl) (by kernel_rfl)
end


theorem info_d80 : (Try.prog.info? 99).map (·.size) = some 80 := by kernel_rfl
theorem zero_d80 : ((Try.prog.info? 99).bind (·.zero)) = some (A64 (z64 80)) := by kernel_rfl
section
variable (w : World) (ρ : Operand → Value) (dst : Option Tmp) (ty : TypeId) (pos : String) (after : Array Edge) (guard : Option (Nat × Bool))
@[go_sem ↓ high] theorem load_d80 (x : Operand) :
    (execOp ρ { dst, op := .load 99 x, type := ty, pos, after, guard }).run Try.prog w = loadOp 80 w (rawOp Try.prog ρ { dst, op := .load 99 x, type := ty, pos, after, guard } w) (ρ x) :=
  exec_load w ρ dst ty pos after guard 99 80 _ x (by decide) Try.underlying99 rfl info_d80
@[go_sem ↓ high] theorem store_d80 (x y : Operand) :
    (execOp ρ { dst, op := .store 99 x y, type := ty, pos, after, guard }).run Try.prog w = storeOp 80 w (rawOp Try.prog ρ { dst, op := .store 99 x y, type := ty, pos, after, guard } w) (ρ x) (ρ y) :=
  exec_store w ρ dst ty pos after guard 99 80 x y (by decide) info_d80
@[go_sem ↓ high] theorem alloc_d80 :
    (execOp ρ { dst, op := .alloc 99, type := ty, pos, after, guard }).run Try.prog w = .ok (.value (.pointer (some ⟨w.heap.size, 0, none⟩))) (w.alloc (.cells (c64 (z64 80)).toArray 99)) :=
  exec_alloc w ρ dst ty pos after guard 99 (A64 (z64 80)) zero_d80
@[go_sem ↓ high] theorem index_d80 (x ix : Operand) :
    (execOp ρ { dst, op := .index 99 x ix, type := ty, pos, after, guard }).run Try.prog w = idx64 80 w (rawOp Try.prog ρ { dst, op := .index 99 x ix, type := ty, pos, after, guard } w) (ρ x) (ρ ix) :=
  exec_index64 w ρ dst ty pos after guard 99 _ 80 x ix Try.underlying99 (by kernel_rfl) (by kernel_rfl)
end

end Go.Proofs.Ytpalomkcgfalnaa
