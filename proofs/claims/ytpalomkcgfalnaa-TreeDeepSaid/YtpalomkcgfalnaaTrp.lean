/- Trees as plain data: putting a pair; what stays true of a tree. No program in sight. -/
import Derived.Test.YtpalomkcgfalnaaTreeB
set_option linter.unusedVariables false
set_option linter.unusedSimpArgs false
namespace Go.Proofs.Ytpalomkcgfalnaa
open Sh
/-- The tree behind a put, at a depth; f: how many bits are left. -/
def ins (k v : List UInt8) : Nat → Nat → Tr → Tr
  | _, _, .e => .lf k v
  | 0, _, .lf k' v' => if k' = k then .lf k v else .e
  | f + 1, d, .lf k' v' => if k' = k then .lf k v else
      if kbit k d then .nd (if kbit k' d then .e else .lf k' v') (ins k v f (d + 1) (if kbit k' d then .lf k' v' else .e))
      else .nd (ins k v f (d + 1) (if kbit k' d then .e else .lf k' v')) (if kbit k' d then .lf k' v' else .e)
  | 0, _, .nd _ _ => .e
  | f + 1, d, .nd l r => if kbit k d then .nd l (ins k v f (d + 1) r) else .nd (ins k v f (d + 1) l) r
def upd (p : Nat → Bool) (d : Nat) (b : Bool) : Nat → Bool := fun i => if i = d then b else p i
/-- Each key lies where its bits lead; an inner node has two keys at least and stands less than 256 deep. -/
def Ok : Nat → (Nat → Bool) → Tr → Prop
  | _, _, .e => True
  | d, p, .lf k v => k.length = 32 ∧ v.length = 32 ∧ ∀ i, i < d → kbit k i = p i
  | d, p, .nd l r => d < 256 ∧ 2 ≤ l.len + r.len ∧ Ok (d + 1) (upd p d false) l ∧ Ok (d + 1) (upd p d true) r
theorem and_one (x : UInt8) : x &&& 1 = if x.toNat % 2 = 1 then 1 else 0 := by
  apply UInt8.toNat_inj.1
  rw [UInt8.toNat_and]
  show x.toNat &&& 1 = _
  rw [Nat.and_one_is_mod]
  split
  · rename_i h; rw [h]; rfl
  · have : x.toNat % 2 = 0 := by omega
    rw [this]; rfl
theorem kbit_test (k : List UInt8) (n : Nat) : kbit k n = (g8 k (n / 8)).toNat.testBit (7 - n % 8) := by
  unfold kbit
  rw [and_one, UInt8.toNat_shiftRight, UInt8.toNat_ofNat']
  have e : (7 - n % 8) % 2 ^ 8 % 8 = 7 - n % 8 := by omega
  rw [e, Nat.testBit]
  simp only [Nat.and_one_is_mod, Nat.one_and_eq_mod_two]
  by_cases h : (g8 k (n / 8)).toNat >>> (7 - n % 8) % 2 = 1
  · rw [if_pos h, h]; rfl
  · have h0 : (g8 k (n / 8)).toNat >>> (7 - n % 8) % 2 = 0 := by omega
    rw [if_neg h, h0]; rfl
/-- Keys that have the same 256 bits are one. -/
theorem key_ext {a b : List UInt8} (ha : a.length = 32) (hb : b.length = 32) (h : ∀ i, i < 256 → kbit a i = kbit b i) : a = b := by
  apply List.ext_getElem (by omega)
  intro i h1 h2
  apply UInt8.toNat_inj.1
  apply Nat.eq_of_testBit_eq
  intro j
  by_cases hj : j < 8
  · have := h (8 * i + (7 - j)) (by omega)
    rw [kbit_test, kbit_test, show (8 * i + (7 - j)) / 8 = i by omega, show 7 - (8 * i + (7 - j)) % 8 = j by omega] at this
    unfold g8 at this
    simpa [h1, h2] using this
  · have p : 2 ^ 8 ≤ 2 ^ j := Nat.pow_le_pow_right (by omega) (by omega)
    rw [Nat.testBit_lt_two_pow (Nat.lt_of_lt_of_le (UInt8.toNat_lt _) p), Nat.testBit_lt_two_pow (Nat.lt_of_lt_of_le (UInt8.toNat_lt _) p)]
abbrev Pr := List UInt8 × List UInt8
def Tr.pairs : Tr → List Pr
  | .e => []
  | .lf k v => [(k, v)]
  | .nd l r => l.pairs ++ r.pairs
theorem Tr.len_pairs : ∀ t : Tr, t.len = t.pairs.length
  | .e => rfl
  | .lf _ _ => rfl
  | .nd l r => by simp only [Tr.len, Tr.pairs, List.length_append, Tr.len_pairs l, Tr.len_pairs r]
theorem upd_at (p : Nat → Bool) (d : Nat) (b : Bool) : upd p d b d = b := by simp [upd]
theorem upd_lt (p : Nat → Bool) {d i : Nat} (b : Bool) (h : i < d) : upd p d b i = p i := by simp [upd, Nat.ne_of_lt h]
theorem agree_upd {k : List UInt8} {p : Nat → Bool} {d : Nat} (h : ∀ i, i < d → kbit k i = p i) {b : Bool} (hb : kbit k d = b) : ∀ i, i < d + 1 → kbit k i = upd p d b i := fun i hi => by
  by_cases e : i = d
  · subst e; rw [upd_at, hb]
  · rw [upd_lt _ _ (by omega)]; exact h i (by omega)
theorem Ok.keys : ∀ {t : Tr} {d : Nat} {p : Nat → Bool}, Ok d p t → ∀ x ∈ t.pairs, x.1.length = 32 ∧ x.2.length = 32 ∧ ∀ i, i < d → kbit x.1 i = p i
  | .e, _, _, _, x, hx => by simp [Tr.pairs] at hx
  | .lf k v, d, p, ⟨h1, h2, h3⟩, x, hx => by
    simp only [Tr.pairs, List.mem_singleton] at hx
    subst hx
    exact ⟨h1, h2, h3⟩
  | .nd l r, d, p, ⟨_, _, hl, hr⟩, x, hx => by
    simp only [Tr.pairs, List.mem_append] at hx
    rcases hx with hx | hx
    · obtain ⟨a, b, c⟩ := Ok.keys hl x hx
      exact ⟨a, b, fun i hi => by rw [c i (by omega), upd_lt _ _ hi]⟩
    · obtain ⟨a, b, c⟩ := Ok.keys hr x hx
      exact ⟨a, b, fun i hi => by rw [c i (by omega), upd_lt _ _ hi]⟩
theorem Ok.left {l r : Tr} {d : Nat} {p : Nat → Bool} (h : Ok d p (.nd l r)) : ∀ x ∈ l.pairs, kbit x.1 d = false := fun x hx => by
  have := (Ok.keys h.2.2.1 x hx).2.2 d (by omega)
  rwa [upd_at] at this
theorem Ok.right {l r : Tr} {d : Nat} {p : Nat → Bool} (h : Ok d p (.nd l r)) : ∀ x ∈ r.pairs, kbit x.1 d = true := fun x hx => by
  have := (Ok.keys h.2.2.2 x hx).2.2 d (by omega)
  rwa [upd_at] at this
section
variable (k v : List UInt8)
/-- What lies in the tree behind a put. -/
theorem ins_pairs (hk : k.length = 32) : ∀ (f d : Nat) (t : Tr) (p : Nat → Bool), f + d = 256 → (∀ i, i < d → kbit k i = p i) → Ok d p t →
    ∀ x, x ∈ (ins k v f d t).pairs ↔ x = (k, v) ∨ (x ∈ t.pairs ∧ x.1 ≠ k)
  | f, d, .e, p, _, _, _, x => by unfold ins; simp [Tr.pairs]
  | 0, d, .lf k' v', p, hf, ha, ok, x => by
    have e : k' = k := key_ext ok.1 hk fun i hi => by rw [ok.2.2 i (by omega), ha i (by omega)]
    simp only [ins, if_pos e, Tr.pairs, List.mem_singleton]
    constructor
    · exact fun h => .inl h
    · rintro (h | ⟨rfl, h⟩)
      · exact h
      · exact absurd e h
  | f + 1, d, .lf k' v', p, hf, ha, ok, x => by
    unfold ins
    by_cases e : k' = k
    · simp only [if_pos e, Tr.pairs, List.mem_singleton]
      constructor
      · exact fun h => .inl h
      · rintro (h | ⟨rfl, h⟩)
        · exact h
        · exact absurd e h
    · rw [if_neg e]
      have hx : (x = (k', v') ∧ x.1 ≠ k) ↔ x = (k', v') := ⟨fun h => h.1, fun h => ⟨h, by rw [h]; exact e⟩⟩
      cases hb : kbit k d <;> cases hb' : kbit k' d <;> simp only [Bool.false_eq_true, if_false, if_true, Tr.pairs, List.mem_append, List.mem_singleton, List.nil_append, List.append_nil, List.not_mem_nil, or_false, false_or]
      · rw [ins_pairs hk f (d + 1) (.lf k' v') _ (by omega) (agree_upd ha hb) ⟨ok.1, ok.2.1, agree_upd ok.2.2 hb'⟩]
        simp only [Tr.pairs, List.mem_singleton]
      · rw [ins_pairs hk f (d + 1) .e _ (by omega) (agree_upd ha hb) trivial, hx]
        simp [Tr.pairs]
      · rw [ins_pairs hk f (d + 1) .e _ (by omega) (agree_upd ha hb) trivial, hx]
        simp [Tr.pairs, or_comm]
      · rw [ins_pairs hk f (d + 1) (.lf k' v') _ (by omega) (agree_upd ha hb) ⟨ok.1, ok.2.1, agree_upd ok.2.2 hb'⟩]
        simp only [Tr.pairs, List.mem_singleton]
  | 0, d, .nd l r, p, hf, ha, ok, x => absurd ok.1 (by omega)
  | f + 1, d, .nd l r, p, hf, ha, ok, x => by
    have hl := ok.left
    have hr := ok.right
    unfold ins
    cases hb : kbit k d <;> simp only [Bool.false_eq_true, if_false, if_true, Tr.pairs, List.mem_append]
    · rw [ins_pairs hk f (d + 1) l _ (by omega) (agree_upd ha hb) ok.2.2.1]
      have : x ∈ r.pairs → x.1 ≠ k := fun h e => by have := hr x h; rw [e, hb] at this; cases this
      constructor
      · rintro ((h | h) | h)
        · exact .inl h
        · exact .inr ⟨.inl h.1, h.2⟩
        · exact .inr ⟨.inr h, this h⟩
      · rintro (h | ⟨h | h, h2⟩)
        · exact .inl (.inl h)
        · exact .inl (.inr ⟨h, h2⟩)
        · exact .inr h
    · rw [ins_pairs hk f (d + 1) r _ (by omega) (agree_upd ha hb) ok.2.2.2]
      have : x ∈ l.pairs → x.1 ≠ k := fun h e => by have := hl x h; rw [e, hb] at this; cases this
      constructor
      · rintro (h | (h | h))
        · exact .inr ⟨.inl h, this h⟩
        · exact .inl h
        · exact .inr ⟨.inr h.1, h.2⟩
      · rintro (h | ⟨h | h, h2⟩)
        · exact .inr (.inl h)
        · exact .inl h
        · exact .inr (.inr ⟨h, h2⟩)
/-- How many lie there. -/
theorem ins_len (hk : k.length = 32) : ∀ (f d : Nat) (t : Tr) (p : Nat → Bool), f + d = 256 → (∀ i, i < d → kbit k i = p i) → Ok d p t →
    (ins k v f d t).len = t.len + (if ∃ x ∈ t.pairs, x.1 = k then 0 else 1)
  | f, d, .e, p, _, _, _ => by unfold ins; simp [Tr.pairs, Tr.len]
  | 0, d, .lf k' v', p, hf, ha, ok => by
    have e : k' = k := key_ext ok.1 hk fun i hi => by rw [ok.2.2 i (by omega), ha i (by omega)]
    simp [ins, e, Tr.pairs, Tr.len]
  | f + 1, d, .lf k' v', p, hf, ha, ok => by
    unfold ins
    by_cases e : k' = k
    · simp [e, Tr.pairs, Tr.len]
    · rw [if_neg e]
      have he : ¬ ∃ x ∈ (Tr.lf k' v').pairs, x.1 = k := by rintro ⟨x, hx, h⟩; simp [Tr.pairs] at hx; subst hx; exact e h
      rw [if_neg he]
      have h0 : ¬ ∃ x ∈ Tr.e.pairs, x.1 = k := by rintro ⟨x, hx, h⟩; simp [Tr.pairs] at hx
      cases hb : kbit k d <;> cases hb' : kbit k' d <;> simp only [Bool.false_eq_true, if_false, if_true, Tr.len]
      · rw [ins_len hk f (d + 1) (.lf k' v') _ (by omega) (agree_upd ha hb) ⟨ok.1, ok.2.1, agree_upd ok.2.2 hb'⟩, if_neg he]; rfl
      · rw [ins_len hk f (d + 1) .e _ (by omega) (agree_upd ha hb) trivial, if_neg h0]; rfl
      · rw [ins_len hk f (d + 1) .e _ (by omega) (agree_upd ha hb) trivial, if_neg h0]; rfl
      · rw [ins_len hk f (d + 1) (.lf k' v') _ (by omega) (agree_upd ha hb) ⟨ok.1, ok.2.1, agree_upd ok.2.2 hb'⟩, if_neg he]; simp [Tr.len]
  | 0, d, .nd l r, p, hf, ha, ok => absurd ok.1 (by omega)
  | f + 1, d, .nd l r, p, hf, ha, ok => by
    have hl := ok.left
    have hr := ok.right
    unfold ins
    cases hb : kbit k d <;> simp only [Bool.false_eq_true, if_false, if_true, Tr.len]
    · rw [ins_len hk f (d + 1) l _ (by omega) (agree_upd ha hb) ok.2.2.1]
      have : (∃ x ∈ (Tr.nd l r).pairs, x.1 = k) ↔ ∃ x ∈ l.pairs, x.1 = k := by
        constructor
        · rintro ⟨x, hx, h⟩
          simp only [Tr.pairs, List.mem_append] at hx
          rcases hx with hx | hx
          · exact ⟨x, hx, h⟩
          · have := hr x hx; rw [h, hb] at this; cases this
        · rintro ⟨x, hx, h⟩
          exact ⟨x, by simp [Tr.pairs, hx], h⟩
      simp only [this]
      omega
    · rw [ins_len hk f (d + 1) r _ (by omega) (agree_upd ha hb) ok.2.2.2]
      have : (∃ x ∈ (Tr.nd l r).pairs, x.1 = k) ↔ ∃ x ∈ r.pairs, x.1 = k := by
        constructor
        · rintro ⟨x, hx, h⟩
          simp only [Tr.pairs, List.mem_append] at hx
          rcases hx with hx | hx
          · have := hl x hx; rw [h, hb] at this; cases this
          · exact ⟨x, hx, h⟩
        · rintro ⟨x, hx, h⟩
          exact ⟨x, by simp [Tr.pairs, hx], h⟩
      simp only [this]
      omega
theorem ins_ok (hk : k.length = 32) (hv : v.length = 32) : ∀ (f d : Nat) (t : Tr) (p : Nat → Bool), f + d = 256 → (∀ i, i < d → kbit k i = p i) → Ok d p t → Ok d p (ins k v f d t)
  | f, d, .e, p, _, ha, _ => by unfold ins; exact ⟨hk, hv, ha⟩
  | 0, d, .lf k' v', p, hf, ha, ok => by
    have e : k' = k := key_ext ok.1 hk fun i hi => by rw [ok.2.2 i (by omega), ha i (by omega)]
    simp only [ins, if_pos e]
    exact ⟨hk, hv, ha⟩
  | f + 1, d, .lf k' v', p, hf, ha, ok => by
    unfold ins
    by_cases e : k' = k
    · rw [if_pos e]; exact ⟨hk, hv, ha⟩
    · rw [if_neg e]
      have he : ¬ ∃ x ∈ (Tr.lf k' v').pairs, x.1 = k := by rintro ⟨x, hx, h⟩; simp [Tr.pairs] at hx; subst hx; exact e h
      have h0 : ¬ ∃ x ∈ Tr.e.pairs, x.1 = k := by rintro ⟨x, hx, h⟩; simp [Tr.pairs] at hx
      cases hb : kbit k d <;> cases hb' : kbit k' d <;> simp only [Bool.false_eq_true, if_false, if_true]
      · have ok1 : Ok (d + 1) (upd p d false) (.lf k' v') := ⟨ok.1, ok.2.1, agree_upd ok.2.2 hb'⟩
        refine ⟨by omega, ?_, ins_ok hk hv f (d + 1) _ _ (by omega) (agree_upd ha hb) ok1, trivial⟩
        rw [ins_len k v hk f (d + 1) _ _ (by omega) (agree_upd ha hb) ok1, if_neg he]; simp [Tr.len]
      · refine ⟨by omega, ?_, ins_ok hk hv f (d + 1) _ _ (by omega) (agree_upd ha hb) trivial, ⟨ok.1, ok.2.1, agree_upd ok.2.2 hb'⟩⟩
        rw [ins_len k v hk f (d + 1) .e _ (by omega) (agree_upd ha hb) trivial, if_neg h0]; simp [Tr.len]
      · refine ⟨by omega, ?_, ⟨ok.1, ok.2.1, agree_upd ok.2.2 hb'⟩, ins_ok hk hv f (d + 1) _ _ (by omega) (agree_upd ha hb) trivial⟩
        rw [ins_len k v hk f (d + 1) .e _ (by omega) (agree_upd ha hb) trivial, if_neg h0]; simp [Tr.len]
      · have ok1 : Ok (d + 1) (upd p d true) (.lf k' v') := ⟨ok.1, ok.2.1, agree_upd ok.2.2 hb'⟩
        refine ⟨by omega, ?_, trivial, ins_ok hk hv f (d + 1) _ _ (by omega) (agree_upd ha hb) ok1⟩
        rw [ins_len k v hk f (d + 1) _ _ (by omega) (agree_upd ha hb) ok1, if_neg he]; simp [Tr.len]
  | 0, d, .nd l r, p, hf, ha, ok => absurd ok.1 (by omega)
  | f + 1, d, .nd l r, p, hf, ha, ok => by
    unfold ins
    cases hb : kbit k d <;> simp only [Bool.false_eq_true, if_false, if_true]
    · refine ⟨by omega, ?_, ins_ok hk hv f (d + 1) l _ (by omega) (agree_upd ha hb) ok.2.2.1, ok.2.2.2⟩
      rw [ins_len k v hk f (d + 1) l _ (by omega) (agree_upd ha hb) ok.2.2.1]
      have := ok.2.1
      omega
    · refine ⟨by omega, ?_, ok.2.2.1, ins_ok hk hv f (d + 1) r _ (by omega) (agree_upd ha hb) ok.2.2.2⟩
      rw [ins_len k v hk f (d + 1) r _ (by omega) (agree_upd ha hb) ok.2.2.2]
      have := ok.2.1
      omega
end
end Go.Proofs.Ytpalomkcgfalnaa
