/- A region that draws its order, walked as one likes: what only reads is taken first whenever it may come up; of the rest, what comes up next (one operation, or each of several). 'done' tells what has come up. -/
import Derived.Test.YtpalomkcgfalnaaHoist
set_option linter.unusedVariables false
set_option linter.unusedSimpArgs false
namespace Go.Proofs.Ytpalomkcgfalnaa
open Go

section
variable {P : Program} {l : List Oper} {Q : Exit → Act → World → Prop} {S : World → Prop} {a : Act} {w : World}
def doneAt (n : Nat) (done : List Nat) : Array Bool := done.foldl (fun m i => m.setIfInBounds i true) (Array.replicate n false)
def HeldAt (P : Program) (l : List Oper) (Q : Exit → Act → World → Prop) (S : World → Prop) (done : List Nat) (a : Act) (w : World) : Prop :=
  wpAnyH P .any l.toArray (Calm Q) S (l.length - done.length) (doneAt l.length done) a w
theorem held_begin (S : World → Prop) {id : Nat} (hm : P.follows .mixedOrders = true) (h : HeldAt P l Q S [] a w.drew) : (Code.region id l.toArray true).wp P Q a w := by
  refine Code.wp_mono calm_imp (wp_region_held (S := S) hm ?_)
  have e : l.toArray.size = l.length := by simp
  rw [e]
  exact h
theorem firstB_done : ∀ (qs : List Nat) (listed : Array Bool), (firstB .any l.toArray listed qs).1 = qs.foldl (fun m i => m.setIfInBounds i true) listed
  | [], _ => rfl
  | _ :: qs, _ => by simp only [firstB, List.foldl_cons]; exact firstB_done qs _
/-- What only reads, first. -/
theorem held_quiet {done : List Nat} (qs : List Nat) {lq : List Oper} (hs : Region.noSelect l.toArray = true) (h1 : (firstB .any l.toArray (doneAt l.length done) qs).2 = true)
    (hq : pick l qs = lq) (hn : (lq.length == qs.length && decide (done.length + qs.length ≤ l.length)) = true) (hd : apartDst a.tmps.size lq = true) (hS : S w)
    (A : Act) (h : ∀ W, S W → wpQuiet P l.toArray (fun w' => w' = W) (fun a' => a' = A) lq a) (hr : HeldAt P l Q S (done ++ qs) A w) : HeldAt P l Q S done a w := by
  simp only [Bool.and_eq_true, beq_iff_eq, decide_eq_true_eq] at hn
  unfold HeldAt at *
  rw [show l.length - done.length = (l.length - (done ++ qs).length) + qs.length by simp; omega]
  refine held_of_first qs lq _ _ a w hq hn.1 hs h1 hS (fun _ _ _ _ h => h) (wpSame_mono (fun a' ha => ?_) lq a (same_of_quiet w hS lq a hd h))
  subst ha
  rw [firstB_done]
  unfold doneAt at hr ⊢
  rw [List.foldl_append] at hr
  exact hr
def readyIs (l : List Oper) (done rs : List Nat) : Bool := Region.ready .any l.toArray (doneAt l.length done) == rs && decide (done.length < l.length)
def bare (o : Oper) : Oper := { o with guard := none }
theorem bare_wp {o : Oper} {K : Act → World → Prop} {Q : Exit → Act → World → Prop} (h : (bare o).wp P a w K Q) : o.wp P a w K Q := h
theorem held_op {done : List Nat} {i : Nat} {o : Oper} (hi : l[i]? = some o) (hg : Region.wanted o (yielded l.toArray a.tmps) = true)
    (h : ∀ Q' : Exit → Act → World → Prop, (∀ a' w', S w' → HeldAt P l Q S (done ++ [i]) a' w' → Q' .normal a' w') → wpList P #[bare o] Q' [bare o] a w) (hlt : done.length < l.length) :
    wpOp P l.toArray (Calm Q) i (fun a' w' => S w' ∧ wpAnyH P .any l.toArray (Calm Q) S (l.length - done.length - 1) ((doneAt l.length done).setIfInBounds i true) a' w') a w := by
  have h1 := h (fun e a' w' => e = .normal ∧ S w' ∧ HeldAt P l Q S (done ++ [i]) a' w') (fun a' w' h1 h2 => ⟨rfl, h1, h2⟩)
  unfold wpList at h1
  rw [if_pos (by simp [Region.wanted, bare])] at h1
  unfold wpOp
  have hoi : l.toArray[i]? = some o := by simpa using hi
  simp only [hoi]
  rw [if_pos hg]
  rcases h1 with h1 | ⟨_, a, w, h2, _⟩
  · refine .inl (wp_mono2 (fun a' w' h2 => ⟨h2.2.1, ?_⟩) (fun e a' w' hne h2 => (hne h2.1).elim) (bare_wp h1))
    have h3 := h2.2.2
    unfold HeldAt doneAt at h3
    rw [List.foldl_append] at h3
    rw [show l.length - done.length - 1 = l.length - (done ++ [i]).length by simp; omega]
    exact h3
  · cases h2
theorem held_ready {done rs : List Nat} (hr : readyIs l done rs = true) (hne : rs ≠ [])
    (h : ∀ i ∈ rs, wpOp P l.toArray (Calm Q) i (fun a' w' => S w' ∧ wpAnyH P .any l.toArray (Calm Q) S (l.length - done.length - 1) ((doneAt l.length done).setIfInBounds i true) a' w') a w) : HeldAt P l Q S done a w := by
  simp only [readyIs, Bool.and_eq_true, beq_iff_eq, decide_eq_true_eq] at hr
  unfold HeldAt
  rw [show l.length - done.length = (l.length - done.length - 1) + 1 by omega]
  exact wpAnyH_all hr.1 hne h
/-- One alone may come up. -/
theorem held_one {done : List Nat} (i : Nat) {o : Oper} (hr : readyIs l done [i] = true) (hi : l[i]? = some o) (hg : Region.wanted o (yielded l.toArray a.tmps) = true)
    (h : ∀ Q' : Exit → Act → World → Prop, (∀ a' w', S w' → HeldAt P l Q S (done ++ [i]) a' w' → Q' .normal a' w') → wpList P #[bare o] Q' [bare o] a w) : HeldAt P l Q S done a w := by
  have hlt : done.length < l.length := by simp only [readyIs, Bool.and_eq_true, decide_eq_true_eq] at hr; exact hr.2
  refine held_ready hr (by simp) fun j hj => ?_
  obtain rfl : j = i := by simpa using hj
  exact held_op hi hg h hlt
/-- One of two. -/
theorem held_two {done : List Nat} (i j : Nat) {o p : Oper} (hr : readyIs l done [i, j] = true) (hi : l[i]? = some o) (hj : l[j]? = some p) (hg : Region.wanted o (yielded l.toArray a.tmps) = true) (hp : Region.wanted p (yielded l.toArray a.tmps) = true)
    (h : ∀ Q' : Exit → Act → World → Prop, (∀ a' w', S w' → HeldAt P l Q S (done ++ [i]) a' w' → Q' .normal a' w') → wpList P #[bare o] Q' [bare o] a w)
    (h2 : ∀ Q' : Exit → Act → World → Prop, (∀ a' w', S w' → HeldAt P l Q S (done ++ [j]) a' w' → Q' .normal a' w') → wpList P #[bare p] Q' [bare p] a w) : HeldAt P l Q S done a w := by
  have hlt : done.length < l.length := by simp only [readyIs, Bool.and_eq_true, decide_eq_true_eq] at hr; exact hr.2
  refine held_ready hr (by simp) fun k hk => ?_
  rcases List.mem_cons.1 hk with rfl | hk
  · exact held_op hi hg h hlt
  · obtain rfl : k = j := by simpa using hk
    exact held_op hj hp h2 hlt
/-- All have come up. -/
theorem held_end {done : List Nat} (hr : (Region.ready .any l.toArray (doneAt l.length done) == []) = true) (h : Q .normal a w) : HeldAt P l Q S done a w := by
  unfold HeldAt
  exact wpAnyH_done (Q := Calm Q) (by simpa using hr) h _
/-- The rest comes in one order alone. -/
theorem held_chain {done : List Nat} (ts : List Nat) {lt : List Oper} (h2 : chainB .any l.toArray (doneAt l.length done) ts = true) (ht : pick l ts = lt) (hn : (lt.length == ts.length && (done.length + ts.length == l.length)) = true)
    (h : wpTail P S (fun a w => Q .normal a w) lt a w) : HeldAt P l Q S done a w := by
  simp only [Bool.and_eq_true, beq_iff_eq] at hn
  unfold HeldAt
  rw [show l.length - done.length = ts.length by omega]
  exact held_of_tail (Q := Calm Q) ts lt _ a w ht hn.1 h2 h
/-- What a piece of code leaves, said once for all its ways. -/
theorem piece {c : Code} (R : Act → World → Prop) (h1 : c.wp P (fun e a' w' => e = .normal ∧ R a' w') a w) (h2 : ∀ a' w', R a' w' → Q .normal a' w') : c.wp P Q a w :=
  Code.wp_mono (fun e a' w' h => by obtain ⟨rfl, h⟩ := h; exact h2 a' w' h) h1
end
end Go.Proofs.Ytpalomkcgfalnaa
