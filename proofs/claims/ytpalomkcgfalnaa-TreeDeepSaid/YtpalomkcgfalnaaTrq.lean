/- Trees as plain data: a tree is what its pairs make of it; keys rise; what a key leads to. No program in sight. -/
import Derived.Test.YtpalomkcgfalnaaTrp
set_option linter.unusedVariables false
set_option linter.unusedSimpArgs false
namespace Go.Proofs.Ytpalomkcgfalnaa
open Sh
/-- Keys in the order of their bits. -/
def klt (a b : List UInt8) : Prop := ∃ d, d < 256 ∧ (∀ i, i < d → kbit a i = kbit b i) ∧ kbit a d = false ∧ kbit b d = true
theorem klt.ne {a b : List UInt8} (h : klt a b) : a ≠ b := by
  rintro rfl
  obtain ⟨d, _, _, h1, h2⟩ := h
  rw [h1] at h2; cases h2
theorem klt.trans {a b c : List UInt8} (h : klt a b) (h' : klt b c) : klt a c := by
  obtain ⟨d, hd, e, h1, h2⟩ := h
  obtain ⟨d', hd', e', h1', h2'⟩ := h'
  rcases Nat.lt_trichotomy d d' with hlt | rfl | hgt
  · exact ⟨d, hd, fun i hi => (e i hi).trans (e' i (by omega)), h1, by rw [← e' d hlt]; exact h2⟩
  · rw [h2] at h1'; cases h1'
  · exact ⟨d', hd', fun i hi => (e i (by omega)).trans (e' i hi), by rw [e d' hgt]; exact h1', h2'⟩
theorem klt.asymm {a b : List UInt8} (h : klt a b) : ¬ klt b a := fun h' => (h.trans h').ne rfl
theorem klt.total {a b : List UInt8} (ha : a.length = 32) (hb : b.length = 32) (hne : a ≠ b) : klt a b ∨ klt b a := by
  have h : ∃ i, i < 256 ∧ kbit a i ≠ kbit b i := by
    apply Classical.byContradiction
    intro h
    exact hne (key_ext ha hb fun i hi => Classical.byContradiction fun h2 => h ⟨i, hi, h2⟩)
  have key : ∀ n, (∃ i, i < n ∧ i < 256 ∧ kbit a i ≠ kbit b i) → ∃ d, d < 256 ∧ (∀ i, i < d → kbit a i = kbit b i) ∧ kbit a d ≠ kbit b d := by
    intro n
    induction n with
    | zero => rintro ⟨i, hi, _⟩; omega
    | succ n ih =>
      rintro ⟨i, hi, h1, h2⟩
      by_cases hex : ∃ i, i < n ∧ i < 256 ∧ kbit a i ≠ kbit b i
      · exact ih hex
      · have : i = n := by
          apply Classical.byContradiction
          intro hin
          exact hex ⟨i, by omega, h1, h2⟩
        subst this
        exact ⟨i, h1, fun j hj => Classical.byContradiction fun h3 => hex ⟨j, hj, by omega, h3⟩, h2⟩
  obtain ⟨i, hi, hne'⟩ := h
  obtain ⟨d, hd, he, h2⟩ := key 256 ⟨i, hi, hi, hne'⟩
  cases h1 : kbit a d <;> cases h3 : kbit b d
  · rw [h1, h3] at h2; exact absurd rfl h2
  · exact .inl ⟨d, hd, he, h1, h3⟩
  · exact .inr ⟨d, hd, fun i hi => (he i hi).symm, h3, h1⟩
  · rw [h1, h3] at h2; exact absurd rfl h2
/-- A tree's pairs, keys rising. -/
theorem Ok.sorted : ∀ {t : Tr} {d : Nat} {p : Nat → Bool}, Ok d p t → t.pairs.Pairwise fun x y => klt x.1 y.1
  | .e, _, _, _ => List.Pairwise.nil
  | .lf _ _, _, _, _ => List.pairwise_singleton _ _
  | .nd l r, d, p, ok => by
    refine List.pairwise_append.2 ⟨Ok.sorted ok.2.2.1, Ok.sorted ok.2.2.2, fun x hx y hy => ?_⟩
    have h1 := Ok.keys ok.2.2.1 x hx
    have h2 := Ok.keys ok.2.2.2 y hy
    refine ⟨d, ok.1, fun i hi => ?_, ok.left x hx, ok.right y hy⟩
    rw [h1.2.2 i (by omega), h2.2.2 i (by omega), upd_lt _ _ hi, upd_lt _ _ hi]
theorem sorted_ext : ∀ {l m : List Pr}, l.Pairwise (fun x y => klt x.1 y.1) → m.Pairwise (fun x y => klt x.1 y.1) → (∀ x, x ∈ l ↔ x ∈ m) → l = m
  | [], [], _, _, _ => rfl
  | [], y :: m, _, _, h => absurd ((h y).2 (by simp)) (by simp)
  | x :: l, [], _, _, h => absurd ((h x).1 (by simp)) (by simp)
  | x :: l, y :: m, hl, hm, h => by
    rw [List.pairwise_cons] at hl hm
    have hxy : x = y := by
      rcases List.mem_cons.1 ((h x).1 (by simp)) with e | e
      · exact e
      · rcases List.mem_cons.1 ((h y).2 (by simp)) with e' | e'
        · exact e'.symm
        · exact absurd (hm.1 x e) (hl.1 y e').asymm
    subst hxy
    congr 1
    refine sorted_ext hl.2 hm.2 fun z => ?_
    constructor
    · intro hz
      rcases List.mem_cons.1 ((h z).1 (by simp [hz])) with e | e
      · subst e; exact absurd rfl (hl.1 z hz).ne
      · exact e
    · intro hz
      rcases List.mem_cons.1 ((h z).2 (by simp [hz])) with e | e
      · subst e; exact absurd rfl (hm.1 z hz).ne
      · exact e
/-- A TREE IS DETERMINED BY ITS PAIRS. -/
theorem Ok.ext : ∀ {t s : Tr} {d : Nat} {p q : Nat → Bool}, Ok d p t → Ok d q s → t.pairs = s.pairs → t = s
  | .e, .e, _, _, _, _, _, _ => rfl
  | .e, .lf _ _, _, _, _, _, _, h => by simp [Tr.pairs] at h
  | .lf _ _, .e, _, _, _, _, _, h => by simp [Tr.pairs] at h
  | .lf _ _, .lf _ _, _, _, _, _, _, h => by simp [Tr.pairs] at h; rw [h.1, h.2]
  | .e, .nd l r, _, _, _, _, ok, h => by
    have := ok.2.1
    have h2 := congrArg List.length h
    rw [← Tr.len_pairs, ← Tr.len_pairs] at h2
    simp only [Tr.len] at h2
    omega
  | .lf _ _, .nd l r, _, _, _, _, ok, h => by
    have := ok.2.1
    have h2 := congrArg List.length h
    rw [← Tr.len_pairs, ← Tr.len_pairs] at h2
    simp only [Tr.len] at h2
    omega
  | .nd l r, .e, _, _, _, ok, _, h => by
    have := ok.2.1
    have h2 := congrArg List.length h
    rw [← Tr.len_pairs, ← Tr.len_pairs] at h2
    simp only [Tr.len] at h2
    omega
  | .nd l r, .lf _ _, _, _, _, ok, _, h => by
    have := ok.2.1
    have h2 := congrArg List.length h
    rw [← Tr.len_pairs, ← Tr.len_pairs] at h2
    simp only [Tr.len] at h2
    omega
  | .nd l r, .nd l' r', d, p, q, ok, ok', h => by
    have h1 : l.pairs = l'.pairs := by
      have := congrArg (List.filter fun x => !kbit x.1 d) h
      simp only [Tr.pairs, List.filter_append] at this
      rw [List.filter_eq_self.2 (fun x hx => by simp [ok.left x hx]), List.filter_eq_nil_iff.2 (fun x hx => by simp [ok.right x hx]),
        List.filter_eq_self.2 (fun x hx => by simp [ok'.left x hx]), List.filter_eq_nil_iff.2 (fun x hx => by simp [ok'.right x hx])] at this
      simpa using this
    have h2 : r.pairs = r'.pairs := by
      simp only [Tr.pairs, h1] at h
      exact List.append_cancel_left h
    rw [Ok.ext ok.2.2.1 ok'.2.2.1 h1, Ok.ext ok.2.2.2 ok'.2.2.2 h2]
/-- The same pairs, in whatever order. -/
theorem Ok.ext_mem {t s : Tr} {d : Nat} {p q : Nat → Bool} (ht : Ok d p t) (hs : Ok d q s) (h : ∀ x, x ∈ t.pairs ↔ x ∈ s.pairs) : t = s :=
  Ok.ext ht hs (sorted_ext ht.sorted hs.sorted h)
/-- What a key leads to: the leaf's pair, or nothing. -/
def Tr.lead (k : List UInt8) : Nat → Tr → Option Pr
  | _, .e => none
  | _, .lf k' v => some (k', v)
  | d, .nd l r => if kbit k d then r.lead k (d + 1) else l.lead k (d + 1)
def Tr.look (k : List UInt8) (d : Nat) (t : Tr) : Option (List UInt8) := match t.lead k d with | some (k', v) => if k' = k then some v else none | none => none
theorem lead_mem (k : List UInt8) : ∀ (t : Tr) (d : Nat) (x : Pr), t.lead k d = some x → x ∈ t.pairs
  | .e, _, _, h => by cases h
  | .lf _ _, _, _, h => by injection h with h; simp [Tr.pairs, h]
  | .nd l r, d, x, h => by
    unfold Tr.lead at h
    simp only [Tr.pairs, List.mem_append]
    split at h
    · exact .inr (lead_mem k r _ x h)
    · exact .inl (lead_mem k l _ x h)
theorem mem_lead (k : List UInt8) : ∀ (t : Tr) (d : Nat) (p : Nat → Bool) (v : List UInt8), Ok d p t → (k, v) ∈ t.pairs → t.lead k d = some (k, v)
  | .e, _, _, _, _, h => by simp [Tr.pairs] at h
  | .lf _ _, _, _, _, _, h => by simp [Tr.pairs] at h; rw [h.1, h.2]; rfl
  | .nd l r, d, p, v, ok, h => by
    simp only [Tr.pairs, List.mem_append] at h
    unfold Tr.lead
    rcases h with h | h
    · have := ok.left _ h
      rw [if_neg (by rw [this]; simp)]
      exact mem_lead k l _ _ v ok.2.2.1 h
    · have := ok.right _ h
      rw [if_pos this]
      exact mem_lead k r _ _ v ok.2.2.2 h
theorem look_some {k v : List UInt8} {t : Tr} {d : Nat} {p : Nat → Bool} (ok : Ok d p t) : t.look k d = some v ↔ (k, v) ∈ t.pairs := by
  unfold Tr.look
  constructor
  · intro h
    split at h
    · rename_i k' v' hl
      split at h
      · rename_i e
        injection h with h
        have := lead_mem k t d _ hl
        rwa [e, h] at this
      · cases h
    · cases h
  · intro h
    rw [mem_lead k t d p v ok h]
    simp
end Go.Proofs.Ytpalomkcgfalnaa
