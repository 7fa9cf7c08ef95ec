/- Regions that draw: one call beside a chain of two. -/
import Derived.Test.YtlegpkdighoflaaMC
import Derived.Outline
set_option linter.unusedVariables false
set_option linter.unusedSimpArgs false
namespace Go.Proofs.Ytlegpkdighoflaa
open Go Go.RowKit
section
variable {P : Program} {l : List Oper} {Q : Exit → Act → World → Prop} {S : World → Prop} {w : World}
theorem held_perm {done done' : List Nat} {a : Act} (h : (doneAt l.length done == doneAt l.length done' && done.length == done'.length) = true) (h1 : HeldAt P l Q S done' a w) : HeldAt P l Q S done a w := by
  simp only [Bool.and_eq_true, beq_iff_eq] at h
  unfold HeldAt at *
  rw [h.1, h.2]
  exact h1
/-- i may come at any place beside j and then m. -/
theorem held_mix {done : List Nat} (i j m : Nat) (F : Value → Value → Value → Act) {ui uj um ri : Value} (J M : Value → World → Prop) {o p q : Oper}
    (h0 : readyIs l done [i, j] = true) (h1 : readyIs l (done ++ [i]) [j] = true) (h2 : readyIs l (done ++ [i] ++ [j]) [m] = true) (h3 : readyIs l (done ++ [j]) [i, m] = true) (h4 : readyIs l (done ++ [j] ++ [i]) [m] = true) (h5 : readyIs l (done ++ [j] ++ [m]) [i] = true)
    (e1 : (doneAt l.length (done ++ [i] ++ [j] ++ [m]) == doneAt l.length (done ++ [i, j, m])) = true) (e2 : (doneAt l.length (done ++ [j] ++ [i] ++ [m]) == doneAt l.length (done ++ [i, j, m])) = true) (e3 : (doneAt l.length (done ++ [j] ++ [m] ++ [i]) == doneAt l.length (done ++ [i, j, m])) = true)
    (hi : l[i]? = some o) (hj : l[j]? = some p) (hm : l[m]? = some q)
    (gi : ∀ x y z, Region.wanted o (yielded l.toArray (F x y z).tmps) = true) (gj : ∀ x y z, Region.wanted p (yielded l.toArray (F x y z).tmps) = true) (gm : ∀ x y z, Region.wanted q (yielded l.toArray (F x y z).tmps) = true)
    (sJ : ∀ y W W', J y W → Below W.heap.size W W' → J y W') (sM : ∀ y W W', M y W → Below W.heap.size W W' → M y W') (hS : S w)
    (hI : ∀ y z W, S W → ∀ Q' : Exit → Act → World → Prop, (∀ W', S W' → Below W.heap.size W W' → Q' .normal (F ri y z) W') → wpList P #[bare o] Q' [bare o] (F ui y z) W)
    (hJ : ∀ x W, S W → ∀ Q' : Exit → Act → World → Prop, (∀ y W', S W' → J y W' → Q' .normal (F x y um) W') → wpList P #[bare p] Q' [bare p] (F x uj um) W)
    (hM : ∀ x y W, S W → J y W → ∀ Q' : Exit → Act → World → Prop, (∀ z W', S W' → M z W' → Q' .normal (F x y z) W') → wpList P #[bare q] Q' [bare q] (F x y um) W)
    (hR : ∀ y z W, S W → M z W → HeldAt P l Q S (done ++ [i, j, m]) (F ri y z) W) : HeldAt P l Q S done (F ui uj um) w := by
  have perm : ∀ d : List Nat, d.length = (done ++ [i, j, m]).length → (doneAt l.length d == doneAt l.length (done ++ [i, j, m])) = true → ∀ y z W, S W → M z W → HeldAt P l Q S d (F ri y z) W := by
    intro d hd he y z W hS hM
    exact held_perm (by simp only [Bool.and_eq_true]; exact ⟨he, by simpa using hd⟩) (hR y z W hS hM)
  refine held_two i j h0 hi hj (gi _ _ _) (gj _ _ _) (fun Q' hQ' => ?_) (fun Q' hQ' => ?_)
  · refine hI _ _ _ hS _ fun W1 S1 b1 => hQ' _ _ S1 ?_
    refine held_one j h1 hj (gj _ _ _) (fun Q' hQ' => hJ _ _ S1 _ fun y W2 S2 J2 => hQ' _ _ S2 ?_)
    refine held_one m h2 hm (gm _ _ _) (fun Q' hQ' => hM _ _ _ S2 J2 _ fun z W3 S3 M3 => hQ' _ _ S3 ?_)
    exact perm _ (by simp) e1 _ _ _ S3 M3
  · refine hJ _ _ hS _ fun y W1 S1 J1 => hQ' _ _ S1 ?_
    refine held_two i m h3 hi hm (gi _ _ _) (gm _ _ _) (fun Q' hQ' => ?_) (fun Q' hQ' => ?_)
    · refine hI _ _ _ S1 _ fun W2 S2 b2 => hQ' _ _ S2 ?_
      refine held_one m h4 hm (gm _ _ _) (fun Q' hQ' => hM _ _ _ S2 (sJ _ _ _ J1 b2) _ fun z W3 S3 M3 => hQ' _ _ S3 ?_)
      exact perm _ (by simp) e2 _ _ _ S3 M3
    · refine hM _ _ _ S1 J1 _ fun z W2 S2 M2 => hQ' _ _ S2 ?_
      refine held_one i h5 hi (gi _ _ _) (fun Q' hQ' => hI _ _ _ S2 _ fun W3 S3 b3 => hQ' _ _ S3 ?_)
      exact perm _ (by simp) e3 _ _ _ S3 (sM _ _ _ M2 b3)
end
end Go.Proofs.Ytlegpkdighoflaa
