/- A region that draws its order, by an invariant: whatever has come up, each operation that may come up next keeps it. -/
import Derived.Test.YtpalomkcgfalnaaHoistB
set_option linter.unusedVariables false
set_option linter.unusedSimpArgs false
namespace Go.Proofs.Ytpalomkcgfalnaa
open Go
section
variable {P : Program} {l : List Oper} {Q : Exit → Act → World → Prop} {S : World → Prop}
theorem count_set : ∀ (L : List Bool) (i : Nat), L[i]? = some false → L.count false = (L.set i true).count false + 1
  | [], i, h => by simp at h
  | b :: L, 0, h => by simp at h; subst h; simp
  | b :: L, i + 1, h => by
    have := count_set L i (by simpa using h)
    simp only [List.set_cons_succ, List.count_cons, this]
    omega
/-- Each operation waits for earlier ones alone. -/
def inOrder (l : List Oper) : Bool := l.zipIdx.all fun (o, i) => o.after.all fun e => !Region.binds .any e || decide (e.on < i)
theorem inOrder_at {i : Nat} {o : Oper} (h : inOrder l = true) (hi : l[i]? = some o) : ∀ e ∈ o.after, Region.binds .any e = true → e.on < i := by
  intro e he hb
  have h1 := List.all_eq_true.1 h (o, i) (by rw [List.mem_zipIdx_iff_getElem?]; exact hi)
  have h2 := Array.all_eq_true_iff_forall_mem.1 h1 e he
  simpa [hb] using h2
theorem listed_all {listed : Array Bool} (ho : inOrder l = true) (hs : listed.size = l.length) (hr : Region.ready .any l.toArray listed = []) : ∀ i, i < l.length → listed.getD i false = true := by
  intro i
  induction i using Nat.strongRecOn with
  | _ i ih =>
    intro hi
    apply Classical.byContradiction
    intro hn
    have hmem : i ∈ Region.ready .any l.toArray listed := by
      refine mem_ready.2 ⟨?_, l[i], by simp [hi], fun e he hb => ?_⟩
      · have : i < listed.size := by omega
        simpa [this] using hn
      · exact ih e.on (inOrder_at ho (by simp [hi]) e he hb) (by have := inOrder_at ho (i := i) (o := l[i]) (by simp [hi]) e he hb; omega)
    rw [hr] at hmem
    cases hmem
theorem held_inv (Inv : Array Bool → Act → World → Prop) (ho : inOrder l = true) (hS : ∀ listed a w, Inv listed a w → S w)
    (hstep : ∀ (listed : Array Bool) (a : Act) (w : World) (i : Nat) (o : Oper), Inv listed a w → listed.size = l.length → l[i]? = some o → listed.getD i true = false → (∀ e ∈ o.after, Region.binds .any e = true → listed.getD e.on false = true) →
      ∀ K : Act → World → Prop, (∀ a' w', Inv (listed.setIfInBounds i true) a' w' → K a' w') → wpOp P l.toArray (Calm Q) i K a w)
    (hend : ∀ (listed : Array Bool) (a : Act) (w : World), Inv listed a w → (∀ i, i < l.length → listed.getD i false = true) → Q .normal a w) :
    ∀ (fuel : Nat) (listed : Array Bool) (a : Act) (w : World), listed.size = l.length → listed.toList.count false = fuel → Inv listed a w → wpAnyH P .any l.toArray (Calm Q) S fuel listed a w
  | 0, listed, a, w, hs, hc, hI => by
    have hall : ∀ i, i < l.length → listed.getD i false = true := by
      intro i hi
      have hil : i < listed.size := by omega
      cases hb : listed[i] with
      | true => simp [hil, hb]
      | false =>
        have : false ∈ listed.toList := by
          have := Array.getElem_mem (xs := listed) hil
          rw [hb] at this
          simpa using this
        have := List.count_pos_iff.2 this
        omega
    refine ⟨?_, hend listed a w hI hall⟩
    apply List.eq_nil_iff_forall_not_mem.2
    intro i hi
    obtain ⟨h1, o, h2, _⟩ := mem_ready.1 hi
    have hil : i < l.length := by
      have := (Array.getElem?_eq_some_iff.1 h2).1
      simpa using this
    have h3 := hall i hil
    have : i < listed.size := by omega
    simp [this] at h1 h3
    rw [h1] at h3; cases h3
  | fuel + 1, listed, a, w, hs, hc, hI => by
    refine ⟨fun hr => hend listed a w hI (listed_all ho hs hr), fun i hi => ?_⟩
    obtain ⟨h1, o, h2, h3⟩ := mem_ready.1 hi
    have hoi : l[i]? = some o := by simpa using h2
    refine hstep listed a w i o hI hs hoi h1 h3 _ fun a' w' hI' => ⟨hS _ _ _ hI', held_inv Inv ho hS hstep hend fuel _ a' w' (by simpa using hs) ?_ hI'⟩
    have hil : i < listed.size := by
      have := (Array.getElem?_eq_some_iff.1 h2).1
      simp at this; omega
    have h4 : listed.toList[i]? = some false := by
      have : listed[i] = false := by simpa [hil] using h1
      simp [hil, this]
    have := count_set listed.toList i h4
    simp only [Array.toList_setIfInBounds]
    omega
theorem held_of_inv {done : List Nat} {a : Act} {w : World} (Inv : Array Bool → Act → World → Prop) (ho : inOrder l = true) (hS : ∀ listed a w, Inv listed a w → S w)
    (hstep : ∀ (listed : Array Bool) (a : Act) (w : World) (i : Nat) (o : Oper), Inv listed a w → listed.size = l.length → l[i]? = some o → listed.getD i true = false → (∀ e ∈ o.after, Region.binds .any e = true → listed.getD e.on false = true) →
      ∀ K : Act → World → Prop, (∀ a' w', Inv (listed.setIfInBounds i true) a' w' → K a' w') → wpOp P l.toArray (Calm Q) i K a w)
    (hend : ∀ (listed : Array Bool) (a : Act) (w : World), Inv listed a w → (∀ i, i < l.length → listed.getD i false = true) → Q .normal a w)
    (hc : ((doneAt l.length done).toList.count false == l.length - done.length && (doneAt l.length done).size == l.length) = true) (hI : Inv (doneAt l.length done) a w) : HeldAt P l Q S done a w := by
  simp only [Bool.and_eq_true, beq_iff_eq] at hc
  exact held_inv Inv ho hS hstep hend _ _ a w hc.2 hc.1 hI
/-- One operation of it. -/
theorem inv_op {i : Nat} {o : Oper} {a : Act} {w : World} {K : Act → World → Prop} (hi : l[i]? = some o) (hg : o.guard = none)
    (h : ∀ Q' : Exit → Act → World → Prop, (∀ a' w', K a' w' → Q' .normal a' w') → wpList P #[o] Q' [o] a w) : wpOp P l.toArray (Calm Q) i K a w := by
  have h1 := h (fun e a' w' => e = .normal ∧ K a' w') (fun a' w' h1 => ⟨rfl, h1⟩)
  unfold wpList at h1
  rw [if_pos (by simp [Region.wanted, hg])] at h1
  unfold wpOp
  have hoi : l.toArray[i]? = some o := by simpa using hi
  simp only [hoi]
  rw [if_pos (by simp [Region.wanted, hg])]
  rcases h1 with h1 | ⟨_, a, w, h2, _⟩
  · exact .inl (wp_mono2 (fun a' w' h2 => h2.2) (fun e a' w' hne h2 => (hne h2.1).elim) h1)
  · cases h2
end
end Go.Proofs.Ytpalomkcgfalnaa
