/- Plain: a tree of two keys that part at a given bit. -/
import Derived.Test.YtpalomkcgfalnaaTrq
set_option linter.unusedVariables false
set_option linter.unusedSimpArgs false
namespace Go.Proofs.Ytpalomkcgfalnaa
open Sh
theorem one_key {l : List Pr} {k : List UInt8} (h : l.Pairwise fun x y => klt x.1 y.1) (hk : ∀ x ∈ l, x.1 = k) : l.length ≤ 1 := by
  match l, h, hk with
  | [], _, _ => simp
  | [x], _, _ => simp
  | x :: y :: l, h, hk =>
    rw [List.pairwise_cons] at h
    have h1 := (h.1 y (by simp)).ne
    rw [hk x (by simp), hk y (by simp)] at h1
    exact absurd rfl h1
/-- Two pairs lie there, of keys k and k2 alone. -/
def TwoAt (k k2 : List UInt8) (d : Nat) (P : Nat → Bool) (s : Tr) : Prop := Ok d P s ∧ s.len = 2 ∧ ∀ x ∈ s.pairs, x.1 = k ∨ x.1 = k2
theorem TwoAt.sides {k k2 : List UInt8} {d : Nat} {P : Nat → Bool} {s : Tr} (h : TwoAt k k2 d P s) : ∃ l r, s = .nd l r := by
  obtain ⟨_, h2, _⟩ := h
  cases s with
  | e => simp [Tr.len] at h2
  | lf k v => simp [Tr.len] at h2
  | nd l r => exact ⟨l, r, rfl⟩
theorem TwoAt.deeper {k k2 : List UInt8} {d : Nat} {P : Nat → Bool} {l r : Tr} (h : TwoAt k k2 d P (.nd l r)) (he : kbit k d = kbit k2 d) :
    ∃ P', TwoAt k k2 (d + 1) P' (if kbit k d then r else l) := by
  obtain ⟨ok, h2, hk⟩ := h
  have hl : ∀ x ∈ l.pairs, kbit k d = false := fun x hx => by
    have h1 := ok.left x hx
    rcases hk x (by simp [Tr.pairs, hx]) with e | e
    · rw [← e]; exact h1
    · rw [he, ← e]; exact h1
  have hr : ∀ x ∈ r.pairs, kbit k d = true := fun x hx => by
    have h1 := ok.right x hx
    rcases hk x (by simp [Tr.pairs, hx]) with e | e
    · rw [← e]; exact h1
    · rw [he, ← e]; exact h1
  cases hb : kbit k d
  · have e : r.pairs = [] := by
      cases hp : r.pairs with
      | nil => rfl
      | cons x m => have := hr x (by rw [hp]; simp); rw [hb] at this; cases this
    have h0 : r.len = 0 := by rw [Tr.len_pairs, e]; rfl
    refine ⟨_, ok.2.2.1, ?_, fun x hx => hk x (by simp [Tr.pairs] at hx ⊢; exact .inl hx)⟩
    simp only [Tr.len] at h2
    simp; omega
  · have e : l.pairs = [] := by
      cases hp : l.pairs with
      | nil => rfl
      | cons x m => have := hl x (by rw [hp]; simp); rw [hb] at this; cases this
    have h0 : l.len = 0 := by rw [Tr.len_pairs, e]; rfl
    refine ⟨_, ok.2.2.2, ?_, fun x hx => hk x (by simp [Tr.pairs] at hx ⊢; exact .inr hx)⟩
    simp only [Tr.len] at h2
    simp; omega
theorem TwoAt.parts {k k2 : List UInt8} {d : Nat} {P : Nat → Bool} {l r : Tr} (h : TwoAt k k2 d P (.nd l r)) (he : kbit k d ≠ kbit k2 d) : l.len = 1 ∧ r.len = 1 := by
  obtain ⟨ok, h2, hk⟩ := h
  simp only [Tr.len] at h2
  have hl : l.len ≤ 1 := by
    rw [Tr.len_pairs]
    refine one_key (k := if kbit k d then k2 else k) (Ok.sorted ok.2.2.1) fun x hx => ?_
    have h1 := ok.left x hx
    rcases hk x (by simp [Tr.pairs, hx]) with e | e
    · rw [e] at h1; rw [if_neg (by rw [h1]; simp)]; exact e
    · rw [e] at h1
      have : kbit k d = true := by cases hb : kbit k d <;> simp_all
      rw [if_pos this]; exact e
  have hr : r.len ≤ 1 := by
    rw [Tr.len_pairs]
    refine one_key (k := if kbit k d then k else k2) (Ok.sorted ok.2.2.2) fun x hx => ?_
    have h1 := ok.right x hx
    rcases hk x (by simp [Tr.pairs, hx]) with e | e
    · rw [e] at h1; rw [if_pos h1]; exact e
    · rw [e] at h1
      have : kbit k d = false := by cases hb : kbit k d <;> simp_all
      rw [if_neg (by rw [this]; simp)]; exact e
  omega
/-- A key with one bit turned. -/
def turned (k : List UInt8) (n : Nat) : List UInt8 := k.set (n / 8) (g8 k (n / 8) ^^^ (128 >>> UInt8.ofNat (n % 8)))
theorem length_turned (k : List UInt8) (n : Nat) : (turned k n).length = k.length := by simp [turned]
theorem kbit_turned (k : List UInt8) (n i : Nat) (hk : k.length = 32) (hn : n < 256) (hi : i < 256) : kbit (turned k n) i = (kbit k i != decide (i = n)) := by
  rw [kbit_test, kbit_test]
  unfold turned g8
  by_cases h : i / 8 = n / 8
  · rw [h]
    have hl : n / 8 < k.length := by omega
    simp only [List.getD_eq_getElem?_getD, List.getElem?_set_self hl, Option.getD_some, List.getElem?_eq_getElem hl]
    rw [UInt8.toNat_xor, UInt8.toNat_shiftRight, UInt8.toNat_ofNat', Nat.testBit_xor]
    have e : n % 8 % 2 ^ 8 % 8 = n % 8 := by omega
    rw [e]
    have e2 : ((128 : UInt8).toNat >>> (n % 8)).testBit (7 - i % 8) = decide (i = n) := by
      have hi8 : i % 8 < 8 := by omega
      have hn8 : n % 8 < 8 := by omega
      have : (i = n) ↔ i % 8 = n % 8 := by omega
      simp only [this]
      show ((128 : Nat) >>> (n % 8)).testBit (7 - i % 8) = _
      generalize i % 8 = a at *
      generalize n % 8 = b at *
      have ha : a = 0 ∨ a = 1 ∨ a = 2 ∨ a = 3 ∨ a = 4 ∨ a = 5 ∨ a = 6 ∨ a = 7 := by omega
      have hb : b = 0 ∨ b = 1 ∨ b = 2 ∨ b = 3 ∨ b = 4 ∨ b = 5 ∨ b = 6 ∨ b = 7 := by omega
      rcases ha with rfl | rfl | rfl | rfl | rfl | rfl | rfl | rfl <;> rcases hb with rfl | rfl | rfl | rfl | rfl | rfl | rfl | rfl <;> rfl
    rw [e2]
  · have hne : i ≠ n := by intro e; exact h (by rw [e])
    simp only [List.getD_eq_getElem?_getD, List.getElem?_set_ne (Ne.symm h)]
    simp [hne]
/-- Two puts into nothing. -/
theorem two_puts (k v v2 : List UInt8) (n : Nat) (hk : k.length = 32) (hv : v.length = 32) (hv2 : v2.length = 32) (hn : n < 256) :
    TwoAt k (turned k n) 0 (fun _ => false) (ins (turned k n) v2 256 0 (.lf k v)) := by
  have hk2 : (turned k n).length = 32 := by rw [length_turned, hk]
  have ok : Ok 0 (fun _ => false) (.lf k v) := ⟨hk, hv, fun i hi => by omega⟩
  have hne : k ≠ turned k n := by
    intro e
    have := kbit_turned k n n hk hn hn
    rw [← e] at this
    simp at this
  refine ⟨ins_ok _ _ hk2 hv2 256 0 _ _ (by omega) (fun i hi => by omega) ok, ?_, fun x hx => ?_⟩
  · rw [ins_len _ _ hk2 256 0 _ _ (by omega) (fun i hi => by omega) ok, if_neg]
    · rfl
    · rintro ⟨x, hx, e⟩
      simp [Tr.pairs] at hx
      subst hx
      exact hne e
  · rw [ins_pairs _ _ hk2 256 0 _ _ (by omega) (fun i hi => by omega) ok] at hx
    rcases hx with rfl | ⟨h1, _⟩
    · exact .inr rfl
    · simp [Tr.pairs] at h1; subst h1; exact .inl rfl
end Go.Proofs.Ytpalomkcgfalnaa
