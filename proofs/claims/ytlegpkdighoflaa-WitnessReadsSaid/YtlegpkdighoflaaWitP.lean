/- witness: the plain law of parts: what a part of a tree knows, what is put, how bytes are read. -/
import Derived.Test.YtlegpkdighoflaaWitD
import Derived.Test.YtlegpkdighoflaaMG
set_option linter.unusedVariables false
set_option linter.unusedSimpArgs false
namespace Go.Proofs.Ytlegpkdighoflaa
open Go Go.RowKit Sh
def Tr.cut : Tr → List (List UInt8) → Nat → Pt
  | .e, _, _ => .e
  | .lf k v, ks, _ => if ks.isEmpty then .hd (Tr.lf k v).root else .lf k v
  | .nd l r, ks, d => if ks.isEmpty then .hd (Tr.nd l r).root else .nd (l.cut (ks.filter fun x => !kbit x d) (d + 1)) (r.cut (ks.filter fun x => kbit x d) (d + 1))
/-- The part shows of the tree what it does not hide. -/
def View : Pt → Tr → Prop
  | .e, .e => True
  | .lf k v, .lf k' v' => k = k' ∧ v = v'
  | .nd l r, .nd l' r' => View l l' ∧ View r r'
  | .hd h, t => h = t.root
  | _, _ => False
def Pt.knows (k : List UInt8) : Nat → Pt → Prop
  | _, .hd _ => False
  | d, .nd l r => if kbit k d then r.knows k (d + 1) else l.knows k (d + 1)
  | _, _ => True
theorem View.root : ∀ {p : Pt} {t : Tr}, View p t → p.root = t.root
  | .e, .e, _ => rfl
  | .lf _ _, .lf _ _, h => by obtain ⟨rfl, rfl⟩ := h; rfl
  | .nd _ _, .nd _ _, h => by simp only [Pt.root, Tr.root]; rw [View.root h.1, View.root h.2]
  | .hd h, t, e => by cases t <;> exact e
  | .e, .lf _ _, h => h.elim
  | .e, .nd _ _, h => h.elim
  | .lf _ _, .e, h => h.elim
  | .lf _ _, .nd _ _, h => h.elim
  | .nd _ _, .e, h => h.elim
  | .nd _ _, .lf _ _, h => h.elim
theorem View.hid {h : List UInt8} {t : Tr} (e : h = t.root) : View (.hd h) t := by cases t <;> exact e
theorem View.ok : ∀ {p : Pt} {t : Tr} {d : Nat} {P : Nat → Bool}, View p t → Ok d P t → p.Ok d P
  | .e, .e, _, _, _, _ => trivial
  | .lf _ _, .lf _ _, _, _, h, ok => by obtain ⟨rfl, rfl⟩ := h; exact ok
  | .nd _ _, .nd _ _, _, _, h, ok => ⟨ok.1, View.ok h.1 ok.2.2.1, View.ok h.2 ok.2.2.2⟩
  | .hd h, t, _, _, e, _ => by have e' : h = t.root := View.root (p := .hd h) e; subst e'; exact t.root_length
  | .e, .lf _ _, _, _, h, _ => h.elim
  | .e, .nd _ _, _, _, h, _ => h.elim
  | .lf _ _, .e, _, _, h, _ => h.elim
  | .lf _ _, .nd _ _, _, _, h, _ => h.elim
  | .nd _ _, .e, _, _, h, _ => h.elim
  | .nd _ _, .lf _ _, _, _, h, _ => h.elim
theorem view_cut : ∀ (t : Tr) (ks : List (List UInt8)) (d : Nat), View (t.cut ks d) t
  | .e, _, _ => trivial
  | .lf k v, ks, d => by
    by_cases h : ks.isEmpty = true <;> simp only [Tr.cut, h, if_true, if_false, Bool.false_eq_true]
    · exact rfl
    · exact ⟨rfl, rfl⟩
  | .nd l r, ks, d => by
    by_cases h : ks.isEmpty = true <;> simp only [Tr.cut, h, if_true, if_false, Bool.false_eq_true]
    · exact rfl
    · exact ⟨view_cut l _ _, view_cut r _ _⟩
theorem knows_cut {k : List UInt8} : ∀ (t : Tr) (ks : List (List UInt8)) (d : Nat), k ∈ ks → (t.cut ks d).knows k d
  | .e, _, _, _ => trivial
  | .lf _ _, ks, d, hk => by
    have h : ks.isEmpty = false := by cases ks with | nil => cases hk | cons _ _ => rfl
    simp only [Tr.cut, h, if_false, Bool.false_eq_true]
    trivial
  | .nd l r, ks, d, hk => by
    have h : ks.isEmpty = false := by cases ks with | nil => cases hk | cons _ _ => rfl
    simp only [Tr.cut, h, if_false, Bool.false_eq_true, Pt.knows]
    by_cases hb : kbit k d = true
    · simp only [hb, if_true]; exact knows_cut r _ _ (List.mem_filter.2 ⟨hk, hb⟩)
    · simp only [hb, if_false, Bool.false_eq_true]; exact knows_cut l _ _ (List.mem_filter.2 ⟨hk, by simpa using hb⟩)
def lookRes : Option (List UInt8) → List UInt8 × Bool × Nat
  | some v => (v, true, 0)
  | none => (z8 32, false, 0)
theorem look_nd (k : List UInt8) (d : Nat) (l r : Tr) : (Tr.nd l r).look k d = if kbit k d then r.look k (d + 1) else l.look k (d + 1) := by
  unfold Tr.look
  by_cases hb : kbit k d = true <;> simp only [Tr.lead, hb, if_true, if_false, Bool.false_eq_true]
theorem view_get {k : List UInt8} : ∀ {p : Pt} {t : Tr} {d : Nat}, View p t → p.knows k d → p.get k d = lookRes (t.look k d)
  | .e, .e, _, _, _ => rfl
  | .lf k' v, .lf _ _, _, h, _ => by
    obtain ⟨rfl, rfl⟩ := h
    simp only [Pt.get, Tr.look, Tr.lead]
    by_cases e : k' = k <;> simp [e, lookRes]
  | .nd l r, .nd l' r', d, h, hk => by
    rw [look_nd]
    simp only [Pt.get, Pt.knows] at hk ⊢
    by_cases hb : kbit k d = true
    · simp only [hb, if_true] at hk ⊢; exact view_get h.2 hk
    · simp only [hb, if_false, Bool.false_eq_true] at hk ⊢; exact view_get h.1 hk
  | .hd h, _, _, _, hk => hk.elim
  | .e, .lf _ _, _, h, _ => h.elim
  | .e, .nd _ _, _, h, _ => h.elim
  | .lf _ _, .e, _, h, _ => h.elim
  | .lf _ _, .nd _ _, _, h, _ => h.elim
  | .nd _ _, .e, _, h, _ => h.elim
  | .nd _ _, .lf _ _, _, h, _ => h.elim
/-- A part without hidden nodes knows every key. -/
theorem knows_put_leaf {k v : List UInt8} : ∀ (f d : Nat) (p q : Pt), (p = .e ∨ ∃ a b, p = .lf a b) → p.put k v f d = some q → ∀ k' , q.knows k' d := by
  intro f
  induction f with
  | zero =>
    intro d p q hp hq k'
    rcases hp with rfl | ⟨a, b, rfl⟩
    · simp only [Pt.put, Option.some.injEq] at hq; subst hq; trivial
    · simp only [Pt.put] at hq
      split at hq
      · simp only [Option.some.injEq] at hq; subst hq; trivial
      · cases hq
  | succ f ih =>
    intro d p q hp hq k'
    rcases hp with rfl | ⟨a, b, rfl⟩
    · simp only [Pt.put, Option.some.injEq] at hq; subst hq; trivial
    · simp only [Pt.put] at hq
      split at hq
      · simp only [Option.some.injEq] at hq; subst hq; trivial
      · by_cases hb : kbit k d = true <;> by_cases ha : kbit a d = true <;> simp only [hb, ha, if_true, if_false, Bool.false_eq_true] at hq <;>
          (obtain ⟨x, hx, rfl⟩ := Option.map_eq_some_iff.1 hq
           simp only [Pt.knows]
           split <;> first | trivial | exact ih _ _ _ (.inl rfl) hx _ | exact ih _ _ _ (.inr ⟨_, _, rfl⟩) hx _)
theorem view_put {k v : List UInt8} (hk : k.length = 32) : ∀ (f d : Nat) (p : Pt) (t : Tr) (P : Nat → Bool), f + d = 256 → (∀ i, i < d → kbit k i = P i) → Ok d P t → View p t → p.knows k d →
    ∃ q, p.put k v f d = some q ∧ View q (ins k v f d t) ∧ ∀ k', p.knows k' d → q.knows k' d := by
  intro f
  induction f with
  | zero =>
    intro d p t P hfd ha ok hv hkn
    cases p with
    | e => cases t with
      | e => exact ⟨_, rfl, ⟨rfl, rfl⟩, fun _ _ => trivial⟩
      | lf _ _ => exact hv.elim
      | nd _ _ => exact hv.elim
    | lf a b => cases t with
      | e => exact hv.elim
      | nd _ _ => exact hv.elim
      | lf k' v' =>
        obtain ⟨rfl, rfl⟩ := hv
        have e : a = k := key_ext ok.1 hk fun i hi => by rw [ok.2.2 i (by omega), ha i (by omega)]
        subst e
        exact ⟨.lf a v, by simp [Pt.put], by simp only [ins, if_true]; exact ⟨rfl, rfl⟩, fun _ _ => trivial⟩
    | nd l r => cases t with
      | e => exact hv.elim
      | lf _ _ => exact hv.elim
      | nd _ _ => exact absurd ok.1 (by omega)
    | hd h => exact hkn.elim
  | succ f ih =>
    intro d p t P hfd ha ok hv hkn
    cases p with
    | e => cases t with
      | e => exact ⟨_, rfl, ⟨rfl, rfl⟩, fun _ _ => trivial⟩
      | lf _ _ => exact hv.elim
      | nd _ _ => exact hv.elim
    | hd h => exact hkn.elim
    | lf a b => cases t with
      | e => exact hv.elim
      | nd _ _ => exact hv.elim
      | lf k' v' =>
        obtain ⟨rfl, rfl⟩ := hv
        by_cases e : a = k
        · subst e
          exact ⟨.lf a v, by simp [Pt.put], by simp only [ins, if_true]; exact ⟨rfl, rfl⟩, fun _ _ => trivial⟩
        · have hlf : ∀ c, kbit a d = c → Ok (d + 1) (upd P d c) (.lf a b) := fun c hc => ⟨ok.1, ok.2.1, fun i hi => upd_way ok.2.2 hc i hi⟩
          by_cases hb : kbit k d = true <;> by_cases hc : kbit a d = true
          · obtain ⟨q, h1, h2, h3⟩ := ih (d + 1) (.lf a b) (.lf a b) (upd P d true) (by omega) (upd_way ha hb) (hlf _ hc) ⟨rfl, rfl⟩ trivial
            refine ⟨.nd .e q, by simp [Pt.put, e, hb, hc, h1], by simp only [ins, e, if_false, hb, hc, if_true]; exact ⟨trivial, h2⟩, fun x _ => ?_⟩
            simp only [Pt.knows]; split
            · exact h3 x trivial
            · trivial
          · obtain ⟨q, h1, h2, h3⟩ := ih (d + 1) .e .e (upd P d true) (by omega) (upd_way ha hb) trivial trivial trivial
            refine ⟨.nd (.lf a b) q, by simp [Pt.put, e, hb, hc, h1], by simp only [ins, e, if_false, hb, hc, if_true, Bool.false_eq_true]; exact ⟨⟨rfl, rfl⟩, by cases f <;> simpa only [ins] using h2⟩, fun x _ => ?_⟩
            simp only [Pt.knows]; split
            · exact h3 x trivial
            · trivial
          · obtain ⟨q, h1, h2, h3⟩ := ih (d + 1) .e .e (upd P d false) (by omega) (upd_way ha (by simpa using hb)) trivial trivial trivial
            refine ⟨.nd q (.lf a b), by simp [Pt.put, e, hb, hc, h1], by simp only [ins, e, if_false, hb, hc, if_true, Bool.false_eq_true]; exact ⟨by cases f <;> simpa only [ins] using h2, ⟨rfl, rfl⟩⟩, fun x _ => ?_⟩
            simp only [Pt.knows]; split
            · trivial
            · exact h3 x trivial
          · obtain ⟨q, h1, h2, h3⟩ := ih (d + 1) (.lf a b) (.lf a b) (upd P d false) (by omega) (upd_way ha (by simpa using hb)) (hlf _ (by simpa using hc)) ⟨rfl, rfl⟩ trivial
            refine ⟨.nd q .e, by simp [Pt.put, e, hb, hc, h1], by simp only [ins, e, if_false, hb, hc, if_true, Bool.false_eq_true]; exact ⟨h2, trivial⟩, fun x _ => ?_⟩
            simp only [Pt.knows]; split
            · trivial
            · exact h3 x trivial
    | nd l r => cases t with
      | e => exact hv.elim
      | lf _ _ => exact hv.elim
      | nd l' r' =>
        by_cases hb : kbit k d = true
        · simp only [Pt.knows, hb, if_true] at hkn
          obtain ⟨q, h1, h2, h3⟩ := ih (d + 1) r r' (upd P d true) (by omega) (upd_way ha hb) ok.2.2.2 hv.2 hkn
          refine ⟨.nd l q, by simp [Pt.put, hb, h1], by simp only [ins, hb, if_true]; exact ⟨hv.1, h2⟩, fun x hx => ?_⟩
          simp only [Pt.knows] at hx ⊢
          split at hx
          · rename_i hc; simp only [hc, if_true]; exact h3 x hx
          · rename_i hc; simp only [hc, if_false, Bool.false_eq_true]; exact hx
        · simp only [Pt.knows, hb, if_false, Bool.false_eq_true] at hkn
          obtain ⟨q, h1, h2, h3⟩ := ih (d + 1) l l' (upd P d false) (by omega) (upd_way ha (by simpa using hb)) ok.2.2.1 hv.1 hkn
          refine ⟨.nd q r, by simp [Pt.put, hb, h1], by simp only [ins, hb, if_false, Bool.false_eq_true]; exact ⟨h2, hv.2⟩, fun x hx => ?_⟩
          simp only [Pt.knows] at hx ⊢
          split at hx
          · rename_i hc; simp only [hc, if_true]; exact hx
          · rename_i hc; simp only [hc, if_false, Bool.false_eq_true]; exact h3 x hx
/-! ### Which inner nodes there are -/
def Pt.isE : Pt → Bool | .e => true | _ => false
def Pt.isLf : Pt → Bool | .lf _ _ => true | _ => false
def ill (l r : Pt) : Bool := l.isE && (r.isE || r.isLf) || r.isE && l.isLf
def Pt.Tight : Pt → Prop
  | .nd l r => ill l r = false ∧ l.Tight ∧ r.Tight
  | _ => True
theorem View.tight : ∀ {p : Pt} {t : Tr} {d : Nat} {P : Nat → Bool}, View p t → Ok d P t → p.Tight
  | .e, .e, _, _, _, _ => trivial
  | .lf _ _, .lf _ _, _, _, h, ok => trivial
  | .nd l r, .nd l' r', _, _, h, ok => by
    refine ⟨?_, View.tight h.1 ok.2.2.1, View.tight h.2 ok.2.2.2⟩
    have hlen := ok.2.1
    have h1 := h.1
    have h2 := h.2
    clear h ok
    cases l <;> cases r <;> cases l' <;> cases r' <;> first | rfl | exact h1.elim | exact h2.elim | (simp [Tr.len] at hlen)
  | .hd h, t, _, _, e, _ => trivial
  | .e, .lf _ _, _, _, h, _ => h.elim
  | .e, .nd _ _, _, _, h, _ => h.elim
  | .lf _ _, .e, _, _, h, _ => h.elim
  | .lf _ _, .nd _ _, _, _, h, _ => h.elim
  | .nd _ _, .e, _, _, h, _ => h.elim
  | .nd _ _, .lf _ _, _, _, h, _ => h.elim
theorem View.size : ∀ {p : Pt} {t : Tr} {d : Nat} {P : Nat → Bool}, View p t → Ok d P t → d ≤ 256 → p.bytes.length ≤ 33 + t.len * (65 + 17 * (256 - d))
  | .e, .e, _, _, _, _, _ => by simp [Pt.bytes]; omega
  | .lf _ _, .lf _ _, _, _, h, ok, _ => by
    obtain ⟨rfl, rfl⟩ := h
    simp only [Pt.bytes, List.length_append, List.length_cons, List.length_nil, ok.1, ok.2.1, Tr.len]
    omega
  | .nd l r, .nd l' r', d, _, h, ok, _ => by
    have h1 := View.size h.1 ok.2.2.1 (by have := ok.1; omega)
    have h2 := View.size h.2 ok.2.2.2 (by have := ok.1; omega)
    have h3 := ok.2.1
    have h4 := ok.1
    simp only [Pt.bytes, List.length_append, List.length_cons, List.length_nil, Tr.len]
    obtain ⟨c, hc⟩ : ∃ c, c = 65 + 17 * (256 - (d + 1)) := ⟨_, rfl⟩
    have hc' : 65 + 17 * (256 - d) = c + 17 := by omega
    rw [← hc] at h1 h2
    rw [hc', Nat.mul_add, Nat.add_mul]
    omega
  | .hd h, t, _, _, e, _, _ => by
    have e' : h = t.root := View.root (p := .hd h) e
    subst e'
    simp only [Pt.bytes, List.length_append, List.length_cons, List.length_nil, t.root_length]
    omega
  | .e, .lf _ _, _, _, h, _, _ => h.elim
  | .e, .nd _ _, _, _, h, _, _ => h.elim
  | .lf _ _, .e, _, _, h, _, _ => h.elim
  | .lf _ _, .nd _ _, _, _, h, _, _ => h.elim
  | .nd _ _, .e, _, _, h, _, _ => h.elim
  | .nd _ _, .lf _ _, _, _, h, _, _ => h.elim
/-! ### What is put -/
theorem Pt.Ok.put {k v : List UInt8} (hk : k.length = 32) (hv : v.length = 32) : ∀ (f d : Nat) (p q : Pt) (P : Nat → Bool), f + d = 256 → (∀ i, i < d → kbit k i = P i) → p.Ok d P → p.put k v f d = some q → q.Ok d P ∧ q.bytes.length ≤ p.bytes.length + 65 + 2 * (f + 1) := by
  intro f
  induction f with
  | zero =>
    intro d p q P hfd ha ok hq
    cases p with
    | e => simp only [Pt.put, Option.some.injEq] at hq; subst hq; exact ⟨⟨hk, hv, ha⟩, by simp [Pt.bytes, hk, hv]⟩
    | hd h => cases hq
    | nd l r => cases hq
    | lf a b =>
      simp only [Pt.put] at hq
      split at hq
      · simp only [Option.some.injEq] at hq; subst hq; exact ⟨⟨hk, hv, ha⟩, by simp [Pt.bytes, hk, hv]⟩
      · cases hq
  | succ f ih =>
    intro d p q P hfd ha ok hq
    cases p with
    | e => simp only [Pt.put, Option.some.injEq] at hq; subst hq; exact ⟨⟨hk, hv, ha⟩, by simp [Pt.bytes, hk, hv]; omega⟩
    | hd h => cases hq
    | nd l r =>
      simp only [Pt.put] at hq
      split at hq
      · rename_i hb
        obtain ⟨x, hx, rfl⟩ := Option.map_eq_some_iff.1 hq
        obtain ⟨h1, h2⟩ := ih (d + 1) r x (upd P d true) (by omega) (upd_way ha hb) ok.2.2 hx
        exact ⟨⟨ok.1, ok.2.1, h1⟩, by simp only [Pt.bytes, List.length_append]; omega⟩
      · rename_i hb
        obtain ⟨x, hx, rfl⟩ := Option.map_eq_some_iff.1 hq
        obtain ⟨h1, h2⟩ := ih (d + 1) l x (upd P d false) (by omega) (upd_way ha (by simpa using hb)) ok.2.1 hx
        exact ⟨⟨ok.1, h1, ok.2.2⟩, by simp only [Pt.bytes, List.length_append]; omega⟩
    | lf a b =>
      simp only [Pt.put] at hq
      split at hq
      · simp only [Option.some.injEq] at hq; subst hq; exact ⟨⟨hk, hv, ha⟩, by simp [Pt.bytes, hk, hv]; omega⟩
      · have hlf : ∀ c, kbit a d = c → Pt.Ok (d + 1) (upd P d c) (.lf a b) := fun c hc => ⟨ok.1, ok.2.1, fun i hi => upd_way ok.2.2 hc i hi⟩
        have h64 : a.length = 32 ∧ b.length = 32 := ⟨ok.1, ok.2.1⟩
        by_cases hb : kbit k d = true <;> by_cases hc : kbit a d = true <;> simp only [hb, hc, if_true, if_false, Bool.false_eq_true] at hq <;> obtain ⟨x, hx, rfl⟩ := Option.map_eq_some_iff.1 hq
        · obtain ⟨h1, h2⟩ := ih (d + 1) _ x (upd P d true) (by omega) (upd_way ha hb) (hlf _ hc) hx
          exact ⟨⟨by omega, trivial, h1⟩, by simp only [Pt.bytes, List.length_append, List.length_cons, List.length_nil, h64.1, h64.2] at h2 ⊢; omega⟩
        · obtain ⟨h1, h2⟩ := ih (d + 1) .e x (upd P d true) (by omega) (upd_way ha hb) trivial hx
          exact ⟨⟨by omega, hlf _ (by simpa using hc), h1⟩, by simp only [Pt.bytes, List.length_append, List.length_cons, List.length_nil, h64.1, h64.2] at h2 ⊢; omega⟩
        · obtain ⟨h1, h2⟩ := ih (d + 1) .e x (upd P d false) (by omega) (upd_way ha (by simpa using hb)) trivial hx
          exact ⟨⟨by omega, h1, hlf _ hc⟩, by simp only [Pt.bytes, List.length_append, List.length_cons, List.length_nil, h64.1, h64.2] at h2 ⊢; omega⟩
        · obtain ⟨h1, h2⟩ := ih (d + 1) _ x (upd P d false) (by omega) (upd_way ha (by simpa using hb)) (hlf _ (by simpa using hc)) hx
          exact ⟨⟨by omega, h1, trivial⟩, by simp only [Pt.bytes, List.length_append, List.length_cons, List.length_nil, h64.1, h64.2] at h2 ⊢; omega⟩
/-- What is known can be put, and what is put is got. -/
theorem put_known {k v : List UInt8} (hk : k.length = 32) : ∀ (f d : Nat) (p : Pt) (P : Nat → Bool), f + d = 256 → (∀ i, i < d → kbit k i = P i) → p.Ok d P → ((p.put k v f d).isSome = true ↔ (p.get k d).2.2 = 0) := by
  intro f
  induction f with
  | zero =>
    intro d p P hfd ha ok
    cases p with
    | e => simp [Pt.put, Pt.get]
    | hd h => simp [Pt.put, Pt.get]
    | nd l r => exact absurd ok.1 (by omega)
    | lf a b =>
      have e : a = k := key_ext ok.1 hk fun i hi => by rw [ok.2.2 i (by omega), ha i (by omega)]
      simp [Pt.put, Pt.get, e]
  | succ f ih =>
    intro d p P hfd ha ok
    cases p with
    | e => simp [Pt.put, Pt.get]
    | hd h => simp [Pt.put, Pt.get]
    | nd l r =>
      simp only [Pt.put, Pt.get]
      by_cases hb : kbit k d = true
      · simp only [hb, if_true, Option.isSome_map]; exact ih _ _ _ (by omega) (upd_way ha hb) ok.2.2
      · simp only [hb, if_false, Bool.false_eq_true, Option.isSome_map]; exact ih _ _ _ (by omega) (upd_way ha (by simpa using hb)) ok.2.1
    | lf a b =>
      have hlf : ∀ c, kbit a d = c → Pt.Ok (d + 1) (upd P d c) (.lf a b) := fun c hc => ⟨ok.1, ok.2.1, fun i hi => upd_way ok.2.2 hc i hi⟩
      have hg : (Pt.get k d (.lf a b)).2.2 = 0 := by simp only [Pt.get]; split <;> rfl
      have hg' : ∀ d', (Pt.get k d' (.lf a b)).2.2 = 0 := fun d' => by simp only [Pt.get]; split <;> rfl
      simp only [hg, iff_true]
      simp only [Pt.put]
      split
      · rfl
      · by_cases hb : kbit k d = true <;> by_cases hc : kbit a d = true <;> simp only [hb, hc, if_true, if_false, Bool.false_eq_true, Option.isSome_map]
        · exact (ih _ _ _ (by omega) (upd_way ha hb) (hlf _ hc)).2 (hg' _)
        · exact (ih _ .e (upd P d true) (by omega) (upd_way ha hb) trivial).2 rfl
        · exact (ih _ .e (upd P d false) (by omega) (upd_way ha (by simpa using hb)) trivial).2 rfl
        · exact (ih _ _ _ (by omega) (upd_way ha (by simpa using hb)) (hlf _ (by simpa using hc))).2 (hg' _)
theorem get_errno {k : List UInt8} : ∀ (p : Pt) (d : Nat), (p.get k d).2.2 = 0 ∨ (p.get k d).2.2 = 100
  | .e, _ => .inl rfl
  | .lf _ _, _ => by simp only [Pt.get]; split <;> exact .inl rfl
  | .hd _, _ => .inr rfl
  | .nd l r, d => by simp only [Pt.get]; split <;> exact get_errno _ _
/-! ### How bytes are read -/
def chk (way : List Bool) (key : List UInt8) : Bool := (List.range way.length).all fun i => kbit key i == way.getD i false
def rd1 (rec : List Bool → List UInt8 → Except Nat (Pt × List UInt8)) (way : List Bool) : List UInt8 → Except Nat (Pt × List UInt8)
  | [] => .error 10
  | k :: b =>
    if k = 0 then .ok (.e, b)
    else if k = 1 then if b.length < 64 then .error 10 else if chk way (b.take 32) then .ok (.lf (b.take 32) ((b.drop 32).take 32), b.drop 64) else .error 13
    else if k = 2 then match rec (way ++ [false]) b with
      | .error e => .error e
      | .ok (l, b1) => match rec (way ++ [true]) b1 with
        | .error e => .error e
        | .ok (r, b2) => if ill l r then .error 13 else .ok (.nd l r, b2)
    else if k = 3 then if b.length < 32 then .error 10 else .ok (.hd (b.take 32), b.drop 32)
    else .error 13
def rd : Nat → List Bool → List UInt8 → Except Nat (Pt × List UInt8)
  | 0 => rd1 fun _ _ => .error 13
  | f + 1 => rd1 (rd f)
def wayP (way : List Bool) : Nat → Bool := fun i => way.getD i false
theorem chk_iff {way : List Bool} {key : List UInt8} : chk way key = true ↔ ∀ i, i < way.length → kbit key i = wayP way i := by simp [chk, wayP]
theorem upd_congr {d : Nat} {P Q : Nat → Bool} (b : Bool) (h : ∀ i, i < d → P i = Q i) : ∀ i, i < d + 1 → upd P d b i = upd Q d b i := fun i hi => by
  unfold upd
  split
  · rfl
  · exact h i (by omega)
theorem Pt.Ok.congr : ∀ {p : Pt} {d : Nat} {P Q : Nat → Bool}, p.Ok d P → (∀ i, i < d → P i = Q i) → p.Ok d Q
  | .e, _, _, _, _, _ => trivial
  | .lf _ _, _, _, _, h, he => ⟨h.1, h.2.1, fun i hi => (h.2.2 i hi).trans (he i hi)⟩
  | .nd _ _, d, P, Q, h, he => ⟨h.1, h.2.1.congr (upd_congr false he), h.2.2.congr (upd_congr true he)⟩
  | .hd _, _, _, _, h, _ => h
theorem wayP_snoc (way : List Bool) (b : Bool) (i : Nat) (hi : i < way.length + 1) : wayP (way ++ [b]) i = upd (wayP way) way.length b i := by
  unfold wayP upd
  split
  · rename_i e; subst e; simp [List.getD_eq_getElem?_getD]
  · rename_i e
    have : i < way.length := by omega
    simp [List.getD_eq_getElem?_getD, List.getElem?_append_left this]
theorem rd_sound : ∀ (f : Nat) (way : List Bool) (b : List UInt8) (p : Pt) (rest : List UInt8), f + way.length = 256 → rd f way b = .ok (p, rest) → b = p.bytes ++ rest ∧ p.Ok way.length (wayP way) ∧ p.Tight := by
  intro f
  induction f with
  | zero =>
    intro way b p rest hf h
    cases b with
    | nil => cases h
    | cons k b =>
      simp only [rd, rd1] at h
      split at h
      · injection h with h; injection h with h1 h2; subst h1 h2; rename_i e; subst e; exact ⟨rfl, trivial, trivial⟩
      split at h
      · split at h
        · cases h
        split at h
        · rename_i hl hc
          injection h with h; injection h with h1 h2; subst h1 h2; rename_i e0 e; subst e
          refine ⟨?_, ⟨by simp; omega, by simp; omega, chk_iff.1 hc⟩, trivial⟩
          have e1 : b.drop 64 = (b.drop 32).drop 32 := by rw [List.drop_drop]
          simp only [Pt.bytes, List.cons_append, List.nil_append, List.append_assoc]
          rw [e1, List.take_append_drop, List.take_append_drop]
        · cases h
      split at h
      · cases h
      split at h
      · split at h
        · cases h
        · rename_i hl
          injection h with h; injection h with h1 h2; subst h1 h2; rename_i e; subst e
          refine ⟨?_, (by simp [Pt.Ok]; omega), trivial⟩
          simp only [Pt.bytes, List.cons_append, List.nil_append]
          rw [List.take_append_drop]
      · cases h
  | succ f ih =>
    intro way b p rest hf h
    cases b with
    | nil => cases h
    | cons k b =>
      simp only [rd, rd1] at h
      split at h
      · injection h with h; injection h with h1 h2; subst h1 h2; rename_i e; subst e; exact ⟨rfl, trivial, trivial⟩
      split at h
      · split at h
        · cases h
        split at h
        · rename_i hl hc
          injection h with h; injection h with h1 h2; subst h1 h2; rename_i e0 e; subst e
          refine ⟨?_, ⟨by simp; omega, by simp; omega, chk_iff.1 hc⟩, trivial⟩
          have e1 : b.drop 64 = (b.drop 32).drop 32 := by rw [List.drop_drop]
          simp only [Pt.bytes, List.cons_append, List.nil_append, List.append_assoc]
          rw [e1, List.take_append_drop, List.take_append_drop]
        · cases h
      split at h
      · rename_i e; subst e
        split at h
        · cases h
        · rename_i l b1 h1
          split at h
          · cases h
          · rename_i r b2 h2
            split at h
            · cases h
            · rename_i hi
              injection h with h; injection h with h3 h4; subst h3 h4
              obtain ⟨e1, o1, t1⟩ := ih _ _ _ _ (by simp; omega) h1
              obtain ⟨e2, o2, t2⟩ := ih _ _ _ _ (by simp; omega) h2
              simp only [List.length_append, List.length_cons, List.length_nil, Nat.zero_add] at o1 o2
              refine ⟨by rw [e1, e2]; simp [Pt.bytes], ⟨by omega, o1.congr fun i hi => wayP_snoc _ _ i hi, o2.congr fun i hi => wayP_snoc _ _ i hi⟩, by simpa using hi, t1, t2⟩
      split at h
      · split at h
        · cases h
        · rename_i hl
          injection h with h; injection h with h1 h2; subst h1 h2; rename_i e; subst e
          refine ⟨?_, (by simp [Pt.Ok]; omega), trivial⟩
          simp only [Pt.bytes, List.cons_append, List.nil_append]
          rw [List.take_append_drop]
      · cases h
theorem rd1_leaf {rec : List Bool → List UInt8 → Except Nat (Pt × List UInt8)} {way : List Bool} {k v rest : List UInt8} (hk : k.length = 32) (hv : v.length = 32) (h : chk way k = true) : rd1 rec way ((Pt.lf k v).bytes ++ rest) = .ok (.lf k v, rest) := by
  have e0 : (Pt.lf k v).bytes ++ rest = 1 :: (k ++ (v ++ rest)) := by simp [Pt.bytes]
  rw [e0]
  have e1 : (k ++ (v ++ rest)).take 32 = k := by rw [← hk, List.take_left]
  have e2 : (k ++ (v ++ rest)).drop 32 = v ++ rest := by rw [← hk, List.drop_left]
  have e3 : (v ++ rest).take 32 = v := by rw [← hv, List.take_left]
  have e4 : (k ++ (v ++ rest)).drop 64 = rest := by rw [show (64 : Nat) = 32 + 32 from rfl, ← List.drop_drop, e2, ← hv, List.drop_left]
  have e5 : ¬ (k ++ (v ++ rest)).length < 64 := by simp [hk, hv]; omega
  simp only [rd1, e1, e2, e3, e4, e5, h, if_false, if_true]
  rfl
theorem rd1_hidden {rec : List Bool → List UInt8 → Except Nat (Pt × List UInt8)} {way : List Bool} {h rest : List UInt8} (hh : h.length = 32) : rd1 rec way ((Pt.hd h).bytes ++ rest) = .ok (.hd h, rest) := by
  have e0 : (Pt.hd h).bytes ++ rest = 3 :: (h ++ rest) := by simp [Pt.bytes]
  rw [e0]
  have e1 : (h ++ rest).take 32 = h := by rw [← hh, List.take_left]
  have e2 : (h ++ rest).drop 32 = rest := by rw [← hh, List.drop_left]
  have e5 : ¬ (h ++ rest).length < 32 := by simp [hh]
  simp only [rd1, e1, e2, e5, if_false, if_true]
  rfl
theorem rd_complete : ∀ (f : Nat) (way : List Bool) (p : Pt) (rest : List UInt8), f + way.length = 256 → p.Ok way.length (wayP way) → p.Tight → rd f way (p.bytes ++ rest) = .ok (p, rest) := by
  intro f
  induction f with
  | zero =>
    intro way p rest hf ok ht
    cases p with
    | e => rfl
    | lf k v => exact rd1_leaf ok.1 ok.2.1 (chk_iff.2 ok.2.2)
    | hd h => exact rd1_hidden ok
    | nd l r => exact absurd ok.1 (by omega)
  | succ f ih =>
    intro way p rest hf ok ht
    cases p with
    | e => rfl
    | lf k v => exact rd1_leaf ok.1 ok.2.1 (chk_iff.2 ok.2.2)
    | hd h => exact rd1_hidden ok
    | nd l r =>
      have h1 := ih (way ++ [false]) l (r.bytes ++ rest) (by simp; omega) (by simp only [List.length_append, List.length_cons, List.length_nil, Nat.zero_add]; exact ok.2.1.congr fun i hi => (wayP_snoc _ _ i hi).symm) ht.2.1
      have h2 := ih (way ++ [true]) r rest (by simp; omega) (by simp only [List.length_append, List.length_cons, List.length_nil, Nat.zero_add]; exact ok.2.2.congr fun i hi => (wayP_snoc _ _ i hi).symm) ht.2.2
      have e0 : (Pt.nd l r).bytes ++ rest = 2 :: (l.bytes ++ (r.bytes ++ rest)) := by simp [Pt.bytes]
      rw [e0]
      simp only [rd, rd1, h1, h2, ht.1]
      rfl
theorem rd_short {f : Nat} {way : List Bool} {b : List UInt8} {e : Nat} : rd f way b = .error e → e = 10 ∨ e = 13 := by
  induction f generalizing way b e with
  | zero =>
    intro h
    cases b with
    | nil => injection h with h; exact .inl h.symm
    | cons k b =>
      simp only [rd, rd1] at h
      repeat' (split at h)
      all_goals first | cases h; done | (injection h with h; subst h; first | exact .inl rfl | exact .inr rfl)
  | succ f ih =>
    intro h
    cases b with
    | nil => injection h with h; exact .inl h.symm
    | cons k b =>
      simp only [rd, rd1] at h
      split at h
      · cases h
      split at h
      · split at h
        · injection h with h; exact .inl h.symm
        · split at h
          · cases h
          · injection h with h; exact .inr h.symm
      split at h
      · split at h
        · rename_i h1; injection h with h; subst h; exact ih h1
        · split at h
          · rename_i h1; injection h with h; subst h; exact ih h1
          · split at h
            · injection h with h; exact .inr h.symm
            · cases h
      split at h
      · split at h
        · injection h with h; exact .inl h.symm
        · cases h
      · injection h with h; exact .inr h.symm
end Go.Proofs.Ytlegpkdighoflaa
