/- A region that draws its order: the operations that only read (under a condition S on the world) are taken first, in a list of their own; the rest comes one by one, S being shown anew behind each. -/
import Derived.OrdersHeld
import Derived.Deep.RegionHeld3
import Derived.Deep.Quiet
import Derived.BigQuiet
import Derived.StillTail
import Derived.WalkKit
set_option linter.unusedVariables false
set_option linter.unusedSimpArgs false
namespace Go.Proofs.Ytpalomkcgfalnaa
open Go

section
variable {P : Program} {ops : Array Oper} {md : Region.Mode} {S : World → Prop}
/-- In every world of S the operation leaves v in its temporary and the world as it is. -/
def YieldsS (P : Program) (ops : Array Oper) (S : World → Prop) (o : Oper) (v : Value) (a : Act) : Prop :=
  (Region.wanted o (yielded ops a.tmps) = true ∧ ∀ w, S w → o.quietAt P a (fun w' => w' = w) w v) ∨
  (Region.wanted o (yielded ops a.tmps) = false ∧ v = undef)
theorem YieldsS.op {i : Nat} {o : Oper} {v : Value} {a : Act} {K : Act → World → Prop} {Q : Exit → Act → World → Prop} {w : World} (hy : YieldsS P ops S o v a) (hi : ops[i]? = some o) (hS : S w) (h : K (a.put o.dst v) w) : wpOp P ops Q i K a w := by
  unfold wpOp
  simp only [hi]
  rcases hy with ⟨hw, hv⟩ | ⟨hw, rfl⟩
  · rw [if_pos hw]
    exact .inl (Oper.wp_of_quiet (C := fun w' => w' = w) (K := fun a' => K a' w) rfl (fun a' w' hw' hK => by rw [hw']; exact hK) ⟨v, fun w' hw' => by rw [hw']; exact hv w hS, h⟩)
  · rw [if_neg (by rw [hw]; simp)]
    exact h
theorem YieldsS.alike {o : Oper} {v : Value} {a a' : Act} (hy : YieldsS P ops S o v a) (he : execOp a'.eval o = execOp a.eval o) (hw : Region.wanted o (yielded ops a'.tmps) = Region.wanted o (yielded ops a.tmps)) : YieldsS P ops S o v a' := by
  unfold YieldsS Oper.quietAt at *
  rw [he, hw]
  exact hy
/-- Another operation, apart from it, comes ahead of it as well as behind it. -/
theorem yields_swap {j : Nat} {oi oj : Oper} {v : Value} {Q : Exit → Act → World → Prop} (hj : ops[j]? = some oj) (hap : oi.apart ops oj = true) (hsi : ∀ cs b, oi.op ≠ .select cs b) (hsj : ∀ cs b, oj.op ≠ .select cs b)
    (hQ : ∀ c a a' w, Q (.panic c) a w → Q (.panic c) a' w) {K : Act → World → Prop} {a : Act} {w : World} (hy : YieldsS P ops S oi v a) (h : wpOp P ops Q j K (a.put oi.dst v) w) :
    wpOp P ops Q j (fun a' w' => YieldsS P ops S oi v a' ∧ K (a'.put oi.dst v) w') a w := by
  obtain ⟨h1, h2, h3⟩ := Oper.apart_spec hap
  have stays : ∀ (b : Act) (u : Value), YieldsS P ops S oi v b → YieldsS P ops S oi v (b.put oj.dst u) := fun b u hb =>
    hb.alike (execOp_put oi hsi b oj.dst u h3) (wanted_put oi b oj.dst u h3)
  have comm : ∀ (b : Act) (u : Value) (w : World), K ((b.put oi.dst v).put oj.dst u) w → K ((b.put oj.dst u).put oi.dst v) w := fun b u w hk => by
    rw [← Act.put_comm b v u h2]; exact hk
  unfold wpOp at *
  simp only [hj] at *
  rw [wanted_put oj a oi.dst v h1] at h
  by_cases hw : Region.wanted oj (yielded ops a.tmps) = true
  · rw [if_pos hw] at h ⊢
    refine h.imp (fun h => ?_) (fun h => ⟨?_, h.2⟩)
    · unfold Oper.wp at *
      rw [execOp_put oj hsj a oi.dst v h1] at h
      generalize (execOp a.eval oj).run P w = r at *
      cases r with
      | ok n w' =>
        cases n <;> simp only [Oper.upon] at h ⊢
        case value u => exact ⟨stays a u hy, comm _ _ _ h⟩
        case skip => exact ⟨stays a _ hy, comm _ _ _ h⟩
        case defer d => exact ⟨stays _ _ (YieldsS.alike (a := a) hy rfl rfl), comm _ _ _ (by rw [← Act.put_defers]; exact h)⟩
        case enter f args =>
          refine Calls.mono h fun e w'' he => ?_
          cases e with
          | returned u => exact ⟨stays a u hy, comm _ _ _ he⟩
          | panicked c => exact hQ _ _ _ _ he
          | outgrown => exact he
        case row row args => exact Rows.mono h fun u w'' he => ⟨stays a u hy, comm _ _ _ he⟩
      | halt x w' =>
        cases x <;> simp only [Oper.upon] at h ⊢
        case panic u => exact hQ _ _ _ _ h
    · unfold Oper.asks at *
      rw [execOp_put oj hsj a oi.dst v h1] at h
      exact h.1
  · rw [if_neg hw] at h ⊢
    exact ⟨stays a _ hy, comm _ _ _ h⟩
theorem held_first {i : Nat} {oi : Oper} {v : Value} {Q : Exit → Act → World → Prop} (hi : ops[i]? = some oi) (hsel : ∀ (j : Nat) (o : Oper) cs b, ops[j]? = some o → o.op ≠ .select cs b) (hQ : ∀ c a a' w, Q (.panic c) a w → Q (.panic c) a' w) :
    ∀ (fuel : Nat) (listed : Array Bool) (a : Act) (w : World),
      (∀ j oj, ops[j]? = some oj → j ≠ i → listed.getD j true = false → (∀ e ∈ oj.after, Region.binds md e = true → e.on ≠ i) → oi.apart ops oj = true) →
      i ∈ Region.ready md ops listed → YieldsS P ops S oi v a → S w →
      wpAnyH P md ops Q S fuel (listed.setIfInBounds i true) (a.put oi.dst v) w → wpAnyH P md ops Q S (fuel + 1) listed a w
  | fuel, listed, a, w, hfree, hr, hy, hS, H => by
    refine ⟨fun h => (by rw [h] at hr; cases hr), fun j hj => ?_⟩
    by_cases hji : j = i
    · subst hji; exact hy.op hi hS ⟨hS, H⟩
    · cases fuel with
      | zero => have := ready_mono hj hji; rw [H.1] at this; cases this
      | succ fuel =>
        obtain ⟨hjun, oj, hoj, hall⟩ := mem_ready.1 hj
        have hun := (mem_ready.1 hr).1
        have hnot : ∀ e ∈ oj.after, Region.binds md e = true → e.on ≠ i := fun e he hb heq => by
          have h1 := hall e he hb
          rw [heq, getD_both hun] at h1
          cases h1
        refine wpOp_mono (fun a' w' h3 => ⟨h3.2.1, held_first hi hsel hQ fuel (listed.setIfInBounds j true) a' w' (fun k ok hk hki hkun hno => ?_) (ready_mono hr (Ne.symm hji)) h3.1 h3.2.1 ?_⟩) (yields_swap hoj (hfree j oj hoj hji hjun hnot) (fun cs b => hsel i oi cs b hi) (fun cs b => hsel j oj cs b hoj) hQ hy (H.2 j (ready_mono hj hji)))
        · refine hfree k ok hk hki ?_ hno
          by_cases hjk : j = k
          · subst hjk; exact hjun
          · rw [getD_set_ne true hjk] at hkun; exact hkun
        · rw [Array.setIfInBounds_comm _ _ hji]
          exact h3.2.2
/-- Operations that leave every world of S as it is, each with a value of its own. -/
def wpSame (P : Program) (ops : Array Oper) (S : World → Prop) (L : Act → Prop) : List Oper → Act → Prop
  | [], a => L a
  | o :: rest, a => ∃ v, YieldsS P ops S o v a ∧ wpSame P ops S L rest (a.put o.dst v)
def apartDst (n : Nat) : List Oper → Bool
  | [] => true
  | o :: rest => (match o.dst with | some d => decide (d < n) && rest.all (fun p => p.dst != some d) | none => false) && apartDst n rest
theorem put_size (a : Act) (d : Option Tmp) (v : Value) : (a.put d v).tmps.size = a.tmps.size := by cases d <;> simp [Act.put]
/-- A slot that none of these operations writes. -/
theorem quiet_keeps {C : World → Prop} {d : Tmp} {A : Act} : ∀ (l : List Oper) (a : Act), l.all (fun p => p.dst != some d) = true → wpQuiet P ops C (fun a' => a' = A) l a → A.tmps.getD d undef = a.tmps.getD d undef
  | [], a, _, h => by rw [show a = A from h]
  | o :: l, a, hl, h => by
    simp only [List.all_cons, Bool.and_eq_true] at hl
    have hput : ∀ v, (a.put o.dst v).tmps.getD d undef = a.tmps.getD d undef := fun v => by
      cases ho : o.dst with
      | none => rfl
      | some e =>
        have hne : e ≠ d := by intro h; subst h; simp [ho] at hl
        simp [Act.put, hne]
    unfold wpQuiet at h
    split at h
    · obtain ⟨v, _, h⟩ := h
      rw [quiet_keeps l _ hl.2 h, hput]
    · rw [quiet_keeps l _ hl.2 h, hput]
/-- One walk at whatever world of S, the frame at its end being the same: then each value is the same, too. -/
theorem same_of_quiet {A : Act} (W0 : World) (h0 : S W0) : ∀ (l : List Oper) (a : Act), apartDst a.tmps.size l = true → (∀ W, S W → wpQuiet P ops (fun w' => w' = W) (fun a' => a' = A) l a) → wpSame P ops S (fun a' => a' = A) l a
  | [], a, _, h => h W0 h0
  | o :: l, a, hl, h => by
    simp only [apartDst, Bool.and_eq_true] at hl
    obtain ⟨ho, hl⟩ := hl
    cases hd : o.dst with
    | none => rw [hd] at ho; cases ho
    | some d =>
      rw [hd] at ho
      simp only [Bool.and_eq_true, decide_eq_true_eq] at ho
      by_cases hw : Region.wanted o (yielded ops a.tmps) = true
      · have key : ∀ W, S W → o.quietAt P a (fun w' => w' = W) W (A.tmps.getD d undef) ∧ wpQuiet P ops (fun w' => w' = W) (fun a' => a' = A) l (a.put o.dst (A.tmps.getD d undef)) := fun W hW => by
          have h1 := h W hW
          unfold wpQuiet at h1
          rw [if_pos hw] at h1
          obtain ⟨v, hv, h2⟩ := h1
          have e := quiet_keeps l _ ho.2 h2
          rw [hd] at e
          have e2 : (a.put (some d) v).tmps.getD d undef = v := by simp [Act.put, ho.1]
          rw [e2] at e
          rw [e]
          exact ⟨hv W rfl, h2⟩
        exact ⟨_, .inl ⟨hw, fun W hW => (key W hW).1⟩, same_of_quiet W0 h0 l _ (by rw [put_size]; exact hl) fun W hW => (key W hW).2⟩
      · refine ⟨undef, .inr ⟨by simpa using hw, rfl⟩, same_of_quiet W0 h0 l _ (by rw [put_size]; exact hl) fun W hW => ?_⟩
        have h1 := h W hW
        unfold wpQuiet at h1
        rw [if_neg hw] at h1
        exact h1
theorem wpSame_mono {L L' : Act → Prop} (hL : ∀ a, L a → L' a) : ∀ (l : List Oper) (a : Act), wpSame P ops S L l a → wpSame P ops S L' l a
  | [], a, h => hL a h
  | _ :: l, _, ⟨v, hy, h⟩ => ⟨v, hy, wpSame_mono hL l _ h⟩
/-- The operations one behind the other, S being shown behind each. -/
def wpTail (P : Program) (S : World → Prop) (Q : Act → World → Prop) : List Oper → Act → World → Prop
  | [], a, w => Q a w
  | o :: rest, a, w => Oper.wp P o a w (fun a' w' => S w' ∧ wpTail P S Q rest a' w') (fun _ _ _ => False)
theorem wpTail_nil {Q : Act → World → Prop} {a : Act} {w : World} (h : Q a w) : wpTail P S Q [] a w := h
theorem wp_mono2 {o : Oper} {a : Act} {w : World} {K K' : Act → World → Prop} {Q Q' : Exit → Act → World → Prop} (hK : ∀ a w, K a w → K' a w) (hQ : ∀ e a w, e ≠ .normal → Q e a w → Q' e a w) (h : o.wp P a w K Q) : o.wp P a w K' Q' := by
  unfold Oper.wp at *
  generalize (execOp a.eval o).run P w = r at *
  cases r with
  | ok n w' =>
    cases n <;> simp only [Oper.upon] at h ⊢
    case value => exact hK _ _ h
    case skip => exact hK _ _ h
    case defer => exact hK _ _ h
    case enter f args =>
      refine Calls.mono h fun e w'' he => ?_
      cases e with
      | returned v => exact hK _ _ he
      | panicked c => exact hQ _ _ _ (by intro h; cases h) he
      | outgrown => obtain ⟨a, w, h⟩ := he; exact ⟨a, w, hQ _ _ _ (by intro h; cases h) h⟩
    case row => exact Rows.mono h fun _ _ he => hK _ _ he
  | halt x w' =>
    cases x <;> simp only [Oper.upon] at h ⊢
    case panic => exact hQ _ _ _ (by intro h; cases h) h
theorem wpTail_step {Q : Act → World → Prop} {o : Oper} {rest : List Oper} {a : Act} {w : World} (hg : o.guard = none)
    (h : ∀ Q' : Exit → Act → World → Prop, (∀ a' w', S w' → wpTail P S Q rest a' w' → Q' .normal a' w') → wpList P #[o] Q' [o] a w) : wpTail P S Q (o :: rest) a w := by
  have h1 := h (fun e a' w' => e = .normal ∧ S w' ∧ wpTail P S Q rest a' w') (fun a' w' h1 h2 => ⟨rfl, h1, h2⟩)
  unfold wpList at h1
  rw [if_pos (by simp [Region.wanted, hg])] at h1
  rcases h1 with h1 | ⟨_, a, w, h2, _⟩
  · exact wp_mono2 (fun a' w' h2 => h2.2) (fun e a' w' hne h2 => hne h2.1) h1
  · cases h2
def firstB (md : Region.Mode) (ops : Array Oper) : Array Bool → List Nat → Array Bool × Bool
  | listed, [] => (listed, true)
  | listed, i :: is => ((firstB md ops (listed.setIfInBounds i true) is).1, (Region.ready md ops listed).contains i && Region.free md ops listed i && (firstB md ops (listed.setIfInBounds i true) is).2)
def chainB (md : Region.Mode) (ops : Array Oper) : Array Bool → List Nat → Bool
  | listed, [] => Region.ready md ops listed == []
  | listed, i :: is => (Region.ready md ops listed == [i]) && (match ops[i]? with | some o => o.guard == none | none => false) && chainB md ops (listed.setIfInBounds i true) is
def pick (l : List Oper) : List Nat → List Oper
  | [] => []
  | i :: is => match l[i]? with | some o => o :: pick l is | none => []
variable {Q : Exit → Act → World → Prop} {l : List Oper}
theorem held_of_tail : ∀ (ts : List Nat) (lt : List Oper) (listed : Array Bool) (a : Act) (w : World), pick l ts = lt → lt.length = ts.length → chainB md l.toArray listed ts = true → wpTail P S (fun a w => Q .normal a w) lt a w → wpAnyH P md l.toArray Q S ts.length listed a w
  | [], lt, listed, a, w, hp, _, hB, h => by
    subst hp
    exact ⟨by simpa [chainB] using hB, h⟩
  | i :: is, lt, listed, a, w, hp, hl, hB, h => by
    simp only [chainB, Bool.and_eq_true, beq_iff_eq] at hB
    obtain ⟨⟨hr, hg⟩, hB⟩ := hB
    simp only [pick] at hp
    cases hi : l[i]? with
    | none => rw [hi] at hp; subst hp; simp at hl
    | some o =>
      rw [hi] at hp
      subst hp
      refine ⟨fun h0 => (by rw [hr] at h0; cases h0), fun j hj => ?_⟩
      rw [hr] at hj
      obtain rfl : j = i := by simpa using hj
      have hoi : l.toArray[j]? = some o := by simpa using hi
      have hgo : o.guard = none := by rw [hoi] at hg; simpa using hg
      unfold wpOp
      simp only [hoi]
      rw [if_pos (by simp [Region.wanted, hgo])]
      refine .inl (wp_mono2 (fun a' w' h2 => ⟨h2.1, held_of_tail is _ _ a' w' rfl (by simpa using hl) hB h2.2⟩) (fun _ _ _ _ h => h.elim) h)
theorem held_of_first : ∀ (qs : List Nat) (lq : List Oper) (fuel : Nat) (listed : Array Bool) (a : Act) (w : World), pick l qs = lq → lq.length = qs.length → Region.noSelect l.toArray = true → (firstB md l.toArray listed qs).2 = true → S w →
    (∀ c a a' w, Q (.panic c) a w → Q (.panic c) a' w) →
    wpSame P l.toArray S (fun a' => wpAnyH P md l.toArray Q S fuel (firstB md l.toArray listed qs).1 a' w) lq a → wpAnyH P md l.toArray Q S (fuel + qs.length) listed a w
  | [], lq, fuel, listed, a, w, hp, _, _, hB, hS, _, h => by subst hp; exact h
  | i :: is, lq, fuel, listed, a, w, hp, hl, hs, hB, hS, hQ, h => by
    simp only [firstB, Bool.and_eq_true] at hB
    obtain ⟨⟨hr, hf⟩, hB⟩ := hB
    simp only [pick] at hp
    cases hi : l[i]? with
    | none => rw [hi] at hp; subst hp; simp at hl
    | some o =>
      rw [hi] at hp
      subst hp
      obtain ⟨v, hy, h⟩ := h
      have hoi : l.toArray[i]? = some o := by simpa using hi
      exact held_first hoi (Region.noSelect_spec hs) hQ _ _ _ _ (Region.free_spec hoi hf) (by simpa using hr) hy hS (held_of_first is _ fuel _ _ w rfl (by simpa using hl) hs hB hS hQ h)
/-- What stands behind a region where a panic is out of the question. -/
def Calm (Q : Exit → Act → World → Prop) : Exit → Act → World → Prop
  | .panic _, _, _ => False
  | e, a, w => Q e a w
theorem calm_imp {Q : Exit → Act → World → Prop} (e : Exit) (a : Act) (w : World) (h : Calm Q e a w) : Q e a w := by
  cases e <;> first | exact h | exact h.elim
/-- THE LAW. qs: what is taken first, in this order; ts: the rest, which comes in no other order than this. The walk of the first: at whatever world of S; its frame at the end is A. -/
theorem wp_hoist (S : World → Prop) (qs ts : List Nat) {id : Nat} {a : Act} {w : World} {lq lt : List Oper} (hm : P.follows .mixedOrders = true) (hs : Region.noSelect l.toArray = true)
    (h1 : (firstB .any l.toArray (Array.replicate l.length false) qs).2 = true) (h2 : chainB .any l.toArray (firstB .any l.toArray (Array.replicate l.length false) qs).1 ts = true)
    (hq : pick l qs = lq) (ht : pick l ts = lt) (hn : (lq.length == qs.length && lt.length == ts.length && (qs.length + ts.length == l.length)) = true) (hd : apartDst a.tmps.size lq = true) (hS : S w.drew)
    (A : Act) (h : ∀ W, S W → wpQuiet P l.toArray (fun w' => w' = W) (fun a' => a' = A) lq a) (ht : S w.drew → wpTail P S (fun a w => Q .normal a w) lt A w.drew) : (Code.region id l.toArray true).wp P Q a w := by
  simp only [Bool.and_eq_true, beq_iff_eq] at hn
  obtain ⟨⟨n1, n2⟩, n3⟩ := hn
  refine Code.wp_mono calm_imp (wp_region_held (S := S) hm ?_)
  have e : l.toArray.size = ts.length + qs.length := by simp; omega
  have e2 : Array.replicate l.toArray.size false = Array.replicate l.length false := by simp
  rw [e2, e]
  exact held_of_first qs lq ts.length _ a _ hq n1 hs h1 hS (fun _ _ _ _ h => h) (wpSame_mono (fun a' ha => by subst ha; exact held_of_tail ts lt _ _ _ (by assumption) n2 h2 (ht hS)) lq a (same_of_quiet _ hS lq a hd h))
end
end Go.Proofs.Ytpalomkcgfalnaa
