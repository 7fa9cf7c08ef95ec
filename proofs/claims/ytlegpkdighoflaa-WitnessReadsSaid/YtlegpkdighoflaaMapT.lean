/- A map of 32 bytes to 32 bytes that bears a tree's pairs. -/
import Derived.Test.YtlegpkdighoflaaNodesA
import Derived.Maps.OwnSet
import Derived.Maps.OwnIn
import Derived.WideKeyArr
import Derived.Outline
set_option linter.unusedVariables false
set_option linter.unusedSimpArgs false
namespace Go.Proofs.Ytlegpkdighoflaa
open Go Go.RowKit Sh
theorem h32_arr : WideMaps.ArrKey Try.prog 24 5 32 := ⟨Try.underlying24, by kernel_rfl, by kernel_rfl, by kernel_rfl⟩
theorem h32_keyed : Maps.Keyed Try.prog 24 := Maps.Keyed.of_law h32_arr.law
theorem types_some : ∃ m, Try.prog.types.size = m + 1 := ⟨Try.prog.types.size - 1, by kernel_rfl⟩
theorem mapM_some {α β : Type} {f : α → Option β} : ∀ (l : List α), (∀ x ∈ l, ∃ y, f x = some y) → ∃ ys, l.mapM f = some ys
  | [], _ => ⟨[], rfl⟩
  | x :: l, h => by
    obtain ⟨y, hy⟩ := h x (by simp)
    obtain ⟨ys, hys⟩ := mapM_some l (fun z hz => h z (by simp [hz]))
    exact ⟨y :: ys, by simp [List.mapM_cons, hy, hys]⟩
theorem n8_wf (x : UInt8) : (Lit.int .u8 (n8 x)).wf = true := by
  have := x.toNat_lt
  simp [Lit.wf, n8, IntKind.min, IntKind.max, IntKind.bits, IntKind.signed]
  omega
theorem key_some {P : Program} {k e : TypeId} (A : WideMaps.ArrKey P k e 32) (he : P.underlying e = some (.int .u8)) (hsz : ∃ m, P.types.size = m + 1) {l : List UInt8} (hl : l.length = 32) : ∃ kl, keyOf P k (A8 l) = some kl := by
  have hkt := A.keyType hsz
  obtain ⟨m, hm⟩ := hsz
  unfold keyOf
  simp only [A.hu]
  rw [if_pos (by simp [hkt, Value.formed, A.hu, A.size, A8, hl]), hm]
  unfold Program.keyLits
  simp only [A.hu, Value.cells, A8]
  rw [if_pos (by rw [A.size]; simp [hl])]
  obtain ⟨ys, hys⟩ : ∃ ys, (List.range 32).mapM (fun i => P.keyLits (m + 1) e (((c8 l).drop (i * P.cellsOf e)).take (P.cellsOf e))) = some ys := by
    refine mapM_some _ fun i hi => ?_
    have hi : i < 32 := by simpa using hi
    obtain ⟨x, hx⟩ : ∃ x, l[i]? = some x := ⟨_, List.getElem?_eq_getElem (by omega)⟩
    have e1 : ((c8 l).drop (i * 1)).take 1 = [v8 x] := by
      rw [Nat.mul_one]
      obtain ⟨hlt, rfl⟩ := List.getElem?_eq_some_iff.1 hx
      rw [List.drop_eq_getElem_cons (by simpa using hlt)]
      simp [c8]
    rw [A.one, e1]
    unfold Program.keyLits
    simp only [he, v8]
    rw [if_pos ⟨trivial, n8_wf x⟩]
    exact ⟨_, rfl⟩
  simp only [hys]
  exact ⟨_, rfl⟩
theorem key_ex (l : List UInt8) (hl : l.length = 32) : ∃ kl, keyOf Try.prog 24 (A8 l) = some kl := key_some h32_arr Try.underlying5 types_some hl
/-- What a key of the map reads as. -/
noncomputable def klitP (P : Program) (k : TypeId) (l : List UInt8) : Lit := (keyOf P k (A8 l)).getD (.bool false)
theorem klitP_eq {P : Program} {k : TypeId} {l : List UInt8} (h : ∃ kl, keyOf P k (A8 l) = some kl) : keyOf P k (A8 l) = some (klitP P k l) := by
  obtain ⟨kl, h⟩ := h
  rw [klitP, h]; rfl
noncomputable def klit (l : List UInt8) : Lit := klitP Try.prog 24 l
theorem klit_eq {l : List UInt8} (hl : l.length = 32) : keyOf Try.prog 24 (A8 l) = some (klit l) := klitP_eq (key_ex l hl)
theorem klitP_key {P : Program} {k : TypeId} (K : Maps.Keyed P k) {l : List UInt8} (h : ∃ kl, keyOf P k (A8 l) = some kl) : WideAt.IsKeyLit (klitP P k l) := by
  have h1 := klitP_eq h
  generalize klitP P k l = q at *
  exact K.key h1
theorem klit_isP : ∀ l, klit l = klitP Try.prog 24 l := fun l => rfl
attribute [irreducible] klit klitP
theorem klit_key {l : List UInt8} (hl : l.length = 32) : WideAt.IsKeyLit (klit l) := by
  have h := klitP_key h32_keyed (key_ex l hl)
  rw [← klit_isP] at h
  exact h
theorem klit_ne {l m : List UInt8} (hl : l.length = 32) (hm : m.length = 32) (h : l ≠ m) : klit l ≠ klit m := fun e => h (A8_inj (h32_keyed.inj (klit_eq hl) (by rw [e]; exact klit_eq hm)))
def cellByte : Value → Option UInt8
  | .int .u8 n => if 0 ≤ n ∧ n < 256 then some (UInt8.ofNat n.toNat) else none
  | _ => none
def decode : Value → Option (List UInt8)
  | .agg a => a.toList.mapM cellByte
  | _ => none
theorem cellByte_v8 (x : UInt8) : cellByte (v8 x) = some x := by
  have := x.toNat_lt
  simp only [cellByte, v8, n8]
  rw [if_pos (by omega)]
  simp
theorem decode_A8 (l : List UInt8) : decode (A8 l) = some l := by
  simp only [decode, A8]
  show (l.map v8).mapM cellByte = some l
  induction l with
  | nil => rfl
  | cons x l ih => simp [List.mapM_cons, cellByte_v8, ih]
theorem cellByte_inv {v : Value} {x : UInt8} (h : cellByte v = some x) : v = v8 x := by
  unfold cellByte at h
  split at h
  · split at h
    · rename_i n hn
      injection h with h
      subst h
      simp only [v8, n8]
      congr 1
      rw [UInt8.toNat_ofNat']
      omega
    · cases h
  · cases h
theorem decode_inv {v : Value} {l : List UInt8} (h : decode v = some l) : v = A8 l := by
  unfold decode at h
  split at h
  · rename_i a
    simp only [A8]
    congr 1
    obtain ⟨xs⟩ := a
    congr 1
    simp only [] at h
    revert l
    induction xs with
    | nil => intro l h; simp at h; subst h; rfl
    | cons x xs ih =>
      intro l h
      simp only [List.mapM_cons] at h
      cases hx : cellByte x with
      | none => simp [hx] at h
      | some b =>
        cases hr : xs.mapM cellByte with
        | none => simp [hx, hr] at h
        | some r =>
          simp [hx, hr] at h
          subst h
          rw [cellByte_inv hx, ih hr]
          rfl
  · cases h
/-- How a value of the map reads. -/
def R32 (v : Value) : Option (DataW Unit × List MemPlace) := (decode v).map fun l => (.lit (.string l), [])
theorem R32_A8 (l : List UInt8) : R32 (A8 l) = some (.lit (.string l), []) := by simp [R32, decode_A8]
theorem R32_inv {v : Value} {l : List UInt8} {ps : List MemPlace} (h : R32 v = some (.lit (.string l), ps)) : v = A8 l := by
  unfold R32 at h
  cases hd : decode v with
  | none => simp [hd] at h
  | some m =>
    simp [hd] at h
    obtain ⟨rfl, _⟩ := h
    exact decode_inv hd
/-- Block b is a map that bears the tree's pairs. -/
def MapT (w : World) (b n : Nat) (T : Tr) : Prop := ∃ D : DataW Unit, w.ownsMap Try.prog 24 R32 b n D ∧ Maps.size D = T.len ∧
  ∀ k : List UInt8, k.length = 32 → Maps.has D (klit k) = (T.look k 0).isSome ∧ ∀ z, D.atKey (klit k) z = (match T.look k 0 with | some v => .lit (.string v) | none => z)
theorem MapT.made (w : World) : MapT (w.alloc (.map #[] 0)) w.heap.size 0 .e := ⟨.map [], World.ownsMap_made _ _ _ _, rfl, fun k hk => ⟨rfl, fun z => rfl⟩⟩
theorem look_put1 {T : Tr} (ok : Okt T) {k v k' : List UInt8} (hk : k.length = 32) (hv : v.length = 32) : (put1 T k v).look k' 0 = if k' = k then some v else T.look k' 0 := by
  have ok2 := ok.put hk hv
  by_cases h : k' = k
  · subst h
    rw [if_pos rfl]
    exact (look_some ok2).2 ((mem_put1 ok hk _).2 (.inl rfl))
  · rw [if_neg h]
    cases hT : T.look k' 0 with
    | some x => exact (look_some ok2).2 ((mem_put1 ok hk _).2 (.inr ⟨(look_some ok).1 hT, h⟩))
    | none =>
      cases hp : (put1 T k v).look k' 0 with
      | none => rfl
      | some x =>
        rcases (mem_put1 ok hk _).1 ((look_some ok2).1 hp) with e | ⟨h1, _⟩
        · cases e; exact absurd rfl h
        · rw [(look_some ok).2 h1] at hT; cases hT
theorem len_put1_eq {T : Tr} (ok : Okt T) {k v : List UInt8} (hk : k.length = 32) : (put1 T k v).len = if (T.look k 0).isSome then T.len else T.len + 1 := by
  unfold put1
  rw [ins_len k v hk 256 0 T P0 (by omega) (fun i hi => by omega) ok]
  cases h : T.look k 0 with
  | some x => rw [if_pos ⟨_, (look_some ok).1 h, rfl⟩]; rfl
  | none =>
    rw [if_neg]
    · rfl
    · rintro ⟨x, hx, rfl⟩
      rw [(look_some ok).2 hx] at h; cases h
theorem MapT.put {w : World} {b n : Nat} {T : Tr} (h : MapT w b n T) (ok : Okt T) {k v : List UInt8} (hk : k.length = 32) (hv : v.length = 32) :
    ∃ D : DataW Unit, w.ownsMap Try.prog 24 R32 b n D ∧ ∀ w', w'.ownsMap Try.prog 24 R32 b (n + 1) (D.put (klit k) (.lit (.string v))) → MapT w' b (n + 1) (put1 T k v) := by
  obtain ⟨D, hD, hs, hl⟩ := h
  refine ⟨D, hD, fun w' h' => ⟨_, h', ?_, fun k' hk' => ?_⟩⟩
  · rw [Maps.size_put (hD.tidy h32_keyed), (hl k hk).1, hs, len_put1_eq ok hk]
  · rw [look_put1 ok hk hv]
    by_cases e : k' = k
    · subst e
      rw [if_pos rfl]
      exact ⟨Maps.has_put_same hD.isMap (klit_key hk) _, fun z => Maps.atKey_put_same hD.isMap (klit_key hk) _ _⟩
    · rw [if_neg e]
      have hne := klit_ne hk' hk e
      exact ⟨(Maps.has_put_other hne _).trans (hl k' hk').1, fun z => (Maps.atKey_put_other hne _ _).trans ((hl k' hk').2 z)⟩
theorem MapT.kept {w w' : World} {b n : Nat} {T : Tr} {row : Option Nat} (h : MapT w b n T) (hg : w.grownBy w' row) (hne : some b ≠ row) : MapT w' b n T := by
  obtain ⟨D, hD, h1⟩ := h
  exact ⟨D, hD.kept hg hne, h1⟩
theorem MapT.lt {w : World} {b n : Nat} {T : Tr} (h : MapT w b n T) : b < w.heap.size := by
  obtain ⟨D, hD, h1⟩ := h
  exact hD.lt
theorem MapT.below {w w' : World} {b n B : Nat} {T : Tr} (h : MapT w b n T) (hb : Below B w w') (hB : w.heap.size ≤ B) : MapT w' b n T :=
  h.kept (row := none) ⟨hb.os, hb.tape, hb.output, hb.size, fun k hk _ => hb.block k (by omega)⟩ (by simp)
theorem MapT.setCell {w : World} {b n : Nat} {T : Tr} (h : MapT w b n T) {a : Addr} (ha : b ≠ a.block) (u : Value) : MapT (w.setCell a u) b n T := by
  obtain ⟨D, hD, h1⟩ := h
  exact ⟨D, hD.setCell ha u, h1⟩
theorem MapT.mono {w : World} {b n n' : Nat} {T : Tr} (h : MapT w b n T) (hn : n ≤ n') : MapT w b n' T := by
  obtain ⟨D, hD, h1⟩ := h
  exact ⟨D, hD.mono hn, h1⟩
end Go.Proofs.Ytlegpkdighoflaa
