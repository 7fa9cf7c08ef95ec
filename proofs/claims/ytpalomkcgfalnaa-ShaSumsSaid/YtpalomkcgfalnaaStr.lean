/- Strings made of byte slices, and compared: single steps of the walk; S8 l is the string of these bytes. -/
import Derived.Test.YtpalomkcgfalnaaFirst02
import Derived.Laws.BytesString
import Derived.KernelRfl
set_option linter.unusedVariables false
set_option linter.unusedSimpArgs false
namespace Go.Proofs.Ytpalomkcgfalnaa
open Go Go.RowKit
def S8 (l : List UInt8) : Value := .string ⟨l.toArray⟩
theorem rowAt_some {w : World} {a : Addr} {n : Nat} {cs : List Value} (h : rowAt w a n = some cs) : cs.length = n ∧ ∀ j (u : Value), cs[j]? = some u → w.cell? (a.add j) = some u := (mapM_range (fun j => w.cell? (a.add j)) n cs).1 h
open Classical in
noncomputable def asCells8 (cs : List Value) : Option (List UInt8) := if h : ∃ l, cs = c8 l then some h.choose else none
@[go_sem] theorem asCells8_c8 (l : List UInt8) : asCells8 (c8 l) = some l := by
  have h : ∃ m, c8 l = c8 m := ⟨l, rfl⟩
  unfold asCells8
  rw [dif_pos h]
  exact congrArg some ((List.map_inj_right fun _ _ => n8inj).1 h.choose_spec).symm
theorem of_asCells8 {cs : List Value} {l : List UInt8} (h : asCells8 cs = some l) : cs = c8 l := by
  unfold asCells8 at h
  split at h
  · rename_i hh
    injection h with h
    rw [← h]; exact hh.choose_spec
  · cases h
noncomputable def strOp (w : World) (raw : Result Next) : Value → Result Next
  | .slice (some a) n _ => match (rowAt w a n).bind asCells8 with
    | some l => .ok (.value (S8 l)) w
    | none => raw
  | .slice none n _ => if n = 0 then .ok (.value (S8 [])) w else raw
  | _ => raw
@[go_sem] theorem strOp_none (w : World) (raw : Result Next) (c : Nat) : strOp w raw (.slice none 0 c) = .ok (.value (S8 [])) w := rfl
@[go_sem] theorem strOp_at (w : World) (raw : Result Next) (a : Addr) (n c : Nat) : strOp w raw (.slice (some a) n c) = match (rowAt w a n).bind asCells8 with
    | some l => .ok (.value (S8 l)) w
    | none => raw := rfl
@[go_sem] theorem bind_c8 (l : List UInt8) : (some (c8 l)).bind asCells8 = some l := asCells8_c8 l
theorem fold_bytes (l : List UInt8) : ∀ (b : ByteArray), (l.map (fun x => n8 x)).foldl (fun r n => r.push (UInt8.ofNat n.toNat)) b = ⟨b.data ++ l.toArray⟩ := by
  induction l with
  | nil => intro b; simp
  | cons x l ih =>
    intro b
    rw [List.map_cons, List.foldl_cons, ih]
    have e : UInt8.ofNat (n8 x).toNat = x := by unfold n8; simp
    rw [e]
    congr 1
    apply Array.ext'
    simp [ByteArray.push]
theorem exec_str {P : Program} (w : World) (ρ : Operand → Value) (dst : Option Tmp) (ty : TypeId) (pos : String) (after : Array Edge) (guard : Option (Nat × Bool)) (s t e : TypeId) (x : Operand)
    (hs : P.underlying s = some (.slice e)) (he : P.underlying e = some (.int .u8)) (hd : P.underlying t = some .string) :
    (execOp ρ { dst, op := .convert s t x, type := ty, pos, after, guard }).run P w = strOp w (rawOp P ρ { dst, op := .convert s t x, type := ty, pos, after, guard } w) (ρ x) := by
  generalize hv : ρ x = v
  unfold strOp
  split
  · rename_i a n c
    split
    · rename_i l hl
      rw [Option.bind_eq_some_iff] at hl
      obtain ⟨cs, h1, h2⟩ := hl
      have h3 := of_asCells8 h2
      subst h3
      obtain ⟨hlen, hc⟩ := rowAt_some h1
      have h4 : (loadCells a n).run P w = .ok ((l.map (fun x => n8 x)).map (Value.int .u8)).toArray w := by
        have := run_loadCells_list (P := P) (w := w) a (c8 l) hc
        rw [hlen] at this
        rw [this]
        simp [c8, v8]
      have h5 := run_bytesToString (P := P) w a n c (l.map fun x => n8 x) h4
      rw [fold_bytes] at h5
      have h6 := run_convert_bytes_string (P := P) w s t e (some a) n c hs he hd
      unfold execOp
      simp only [Sem.run_bind, hv]
      rw [h6, h5]
      simp only [Result.andThen_ok]
      show Result.ok (Next.value (Value.string _)) w = _
      simp [S8]
    · rfl
  · rename_i n c
    split
    · rename_i h0
      subst h0
      have h6 := run_convert_bytes_string (P := P) w s t e none 0 c hs he hd
      unfold execOp
      simp only [Sem.run_bind, hv]
      rw [h6]
      rfl
    · rfl
  · rfl
noncomputable def asStr (v : Value) : Option (List UInt8) := match v with | .string s => some s.data.toList | _ => none
theorem asStr_S8 (l : List UInt8) : asStr (S8 l) = some l := rfl
def eqlS (neg : Bool) (w : World) (raw : Result Next) : Value → Value → Result Next
  | .string s, .string t => .ok (.value (.bool (neg != (s.data.toList == t.data.toList)))) w
  | _, _ => raw
@[go_sem] theorem eqlS_S8 (neg : Bool) (w : World) (raw : Result Next) (l m : List UInt8) : eqlS neg w raw (S8 l) (S8 m) = .ok (.value (.bool (neg != (l == m)))) w := rfl
@[go_sem] theorem eqlS_lit (neg : Bool) (w : World) (raw : Result Next) (s t : ByteArray) : eqlS neg w raw (.string s) (.string t) = .ok (.value (.bool (neg != (s.data.toList == t.data.toList)))) w := rfl
theorem By.takes {w : World} {lo B : Nat} {A : Option Addr} {n c : Nat} {l : List UInt8} (h : By w lo B (.slice A n c) l) {k : Nat} (hk : k ≤ n) : By w lo B (.slice A k c) (l.take k) := by
  obtain ⟨A2, c2, e, h2, h3, h4⟩ := h.open_
  injection e with e1 e2 e3
  subst e1; subst e3; subst e2
  have hl : (l.take k).length = k := by rw [List.length_take]; omega
  have := By.mk_ (w := w) (lo := lo) (B := B) (A := A) (c := c) (l := l.take k) (by omega) (by unfold maxLen; exact h3) (by rw [List.map_take]; exact h4.take k)
  rwa [hl] at this
theorem By.drops {w : World} {lo B : Nat} {A : Option Addr} {n c : Nat} {l : List UInt8} (h : By w lo B (.slice A n c) l) {k : Nat} (hk : k ≤ n) : By w lo B (.slice (if c = k then A else A.map (·.add k)) (n - k) (c - k)) (l.drop k) := by
  obtain ⟨A2, c2, e, h2, h3, h4⟩ := h.open_
  injection e with e1 e2 e3
  subst e1; subst e3; subst e2
  have hl : (l.drop k).length = l.length - k := by rw [List.length_drop]
  have := By.mk_ (w := w) (lo := lo) (B := B) (A := if c = k then A else A.map (·.add k)) (c := c - k) (l := l.drop k) (by omega) (by unfold maxLen; omega) (by rw [List.map_drop]; exact h4.cut (by simpa using h2))
  rwa [hl] at this
theorem Parts.two (w : World) (t : TypeId) (x y : Value) (l m : List UInt8) (hx : By w 0 w.heap.size x l) (hy : By w 0 w.heap.size y m) : Parts (w.alloc (.cells #[x, y] t)) (w.heap.size + 1) (.slice (some ⟨w.heap.size, 0, none⟩) 2 2) [l, m] :=
  Parts.build w t [x, y] [l, m] rfl (by simp) fun i u k hu hk => by
    match i, hu, hk with
    | 0, hu, hk => simp at hu hk; subst hu; subst hk; exact hx
    | 1, hu, hk => simp at hu hk; subst hu; subst hk; exact hy
    | i + 2, hu, hk => simp at hu
/-- Bytes that are there, as a whole row. -/
theorem By.row {w : World} {lo B : Nat} {v : Value} {l : List UInt8} (h : By w lo B v l) (hl : 0 < l.length) : ∃ g o c, v = .slice (some ⟨g, o, none⟩) l.length c ∧ l.length ≤ c ∧ c ≤ 9223372036854775807 ∧ lo ≤ g ∧ g < B ∧ rowAt w ⟨g, o, none⟩ l.length = some (c8 l) := by
  obtain ⟨A, c, rfl, h2, h3, h4⟩ := h.open_
  obtain ⟨g, o, rfl, hg, hB, hc⟩ := h4.some (by simpa using hl)
  exact ⟨g, o, c, rfl, h2, h3, hg, hB, rowAt_iff.2 ⟨by simp, hc⟩⟩
theorem strOp_by {w : World} {lo B : Nat} {v : Value} {l : List UInt8} (h : By w lo B v l) (raw : Result Next) : strOp w raw v = .ok (.value (S8 l)) w := by
  obtain ⟨A, c, rfl, h2, h3, h4⟩ := h.open_
  cases A with
  | none =>
    rcases h4 with h4 | ⟨g, o, h4, _⟩
    · have : l = [] := by simpa using h4
      subst this
      rfl
    · cases h4
  | some a =>
    have hr : rowAt w a l.length = some (c8 l) := by
      rcases h4 with h4 | ⟨g, o, h4, _, _, hc⟩
      · have : l = [] := by simpa using h4
        subst this
        rfl
      · injection h4 with h4
        subst h4
        exact rowAt_iff.2 ⟨by simp, hc⟩
    rw [strOp_at, hr]
    simp [asCells8_c8]
section
variable (w : World) (ρ : Operand → Value) (dst : Option Tmp) (ty : TypeId) (pos : String) (after : Array Edge) (guard : Option (Nat × Bool))
@[go_sem ↓ high] theorem str_bytes (x : Operand) :
    (execOp ρ { dst, op := .convert 22 9 x, type := ty, pos, after, guard }).run Try.prog w = strOp w (rawOp Try.prog ρ { dst, op := .convert 22 9 x, type := ty, pos, after, guard } w) (ρ x) :=
  exec_str w ρ dst ty pos after guard 22 9 5 x Try.underlying22 Try.underlying5 Try.underlying9
theorem toList_data (s : ByteArray) : s.toList = s.data.toList := by
  have := ByteArray.toList_loop_eq s _ 0 [] rfl (Nat.zero_le _)
  simpa [ByteArray.toList] using this
@[go_sem ↓ high] theorem eql_str (x y : Operand) (yt : TypeId) :
    (execOp ρ { dst, op := .binOp .eql 9 x y yt, type := ty, pos, after, guard }).run Try.prog w = eqlS false w (rawOp Try.prog ρ { dst, op := .binOp .eql 9 x y yt, type := ty, pos, after, guard } w) (ρ x) (ρ y) := by
  generalize hx : ρ x = a
  generalize hy : ρ y = b
  unfold eqlS
  split
  · rename_i s t
    simp only [execOp, hx, hy, eqGuard_at_string, binOp_string_eql, toList_data]
    simp
  · rfl
end
end Go.Proofs.Ytpalomkcgfalnaa
