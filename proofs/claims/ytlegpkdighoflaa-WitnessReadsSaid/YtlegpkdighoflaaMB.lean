/- math/bits.RotateLeft32 and RotateLeft64 by an amount from -31 (-63) to -1: the word turned. · A region that draws its order and ends in a forced tail (a store, an append, a call that writes): its head, which is quiet in a class of worlds, is walked once in the text's order; the tail is then walked as a plain region, from every world of the class. · Plain lemmas on the digest's lists. -/
import Derived.Deep.Draws
import Derived.Test.YtlegpkdighoflaaProg
import Derived.Test.YtlegpkdighoflaaMA
import Derived.WalkKit
import Derived.WalkLawsBesides
import Derived.KernelRfl
import Derived.StillTailTactics
import Derived.BigQuiet
set_option linter.unusedVariables false
set_option linter.unusedSimpArgs false
namespace Go.Proofs.Ytlegpkdighoflaa
open Go.RowKit Sh
theorem wrapneg (k : Int) (h : -64 < k ∧ k < 0) : IntKind.u64.wrap k = (((18446744073709551616 + k).toNat : Nat) : Int) := by
  simp only [IntKind.wrap, IntKind.bits, IntKind.signed]; simp; omega
theorem low5 (k : Int) (h : -32 < k ∧ k < 0) : bits .and .u64 (IntKind.u64.wrap k) 31 = (((32 + k).toNat : Nat) : Int) := by
  rw [wrapneg k (by omega)]
  have := u64_and_nat (18446744073709551616 + k).toNat 31 (by omega) (by omega)
  rw [nat_mask5] at this
  exact this.trans (by omega)
theorem low6 (k : Int) (h : -64 < k ∧ k < 0) : bits .and .u64 (IntKind.u64.wrap k) 63 = (((64 + k).toNat : Nat) : Int) := by
  rw [wrapneg k (by omega)]
  have := u64_and_nat (18446744073709551616 + k).toNat 63 (by omega) (by omega)
  rw [nat_mask6] at this
  exact this.trans (by omega)
set_option maxHeartbeats 400000 in
theorem rot32_s (x : UInt32) (k : Int) (s t : Nat) (hs : s < 32) (ht : t < 32)
    (h1 : bits .and .u64 (IntKind.u64.wrap k) 31 = (s : Int)) (h2 : IntKind.u64.wrap (32 - (s : Int)) = (t : Int)) (w : World) :
    Calls Try.prog 56 #[.int .u32 (n32 x), .int .i64 k] w fun e w' => e = .returned (.int .u32 (n32 (x <<< UInt32.ofNat s ||| x >>> UInt32.ofNat t))) ∧ w' = w := by
  go_enter Try.func56, Try.ntmps56
  go_wp2
  go_ret
  exact ⟨rfl, rfl⟩
theorem rot32 (x : UInt32) (k : Int) (h : -32 < k ∧ k < 0) (w : World) :
    Calls Try.prog 56 #[.int .u32 (n32 x), .int .i64 k] w fun e w' => e = .returned (.int .u32 (n32 (rotl32 x k))) ∧ w' = w :=
  rot32_s x k _ _ (by omega) (by omega) (low5 k h) ((IntWalk.u64_in _ (by omega)).trans (by omega)) w
/-- A callee that leaves every world as it is, met behind draws that the walk has joined. -/
theorem quiet_same {P : Program} {f : FuncId} {args : Array Value} {w : World} {m : Nat} {v : Value} (h : ∀ W : World, Calls P f args W fun e w' => e = .returned v ∧ w' = W) :
    Calls P f args (w.drewN m) fun e w'' => e = .returned v ∧ ∃ m, w'' = w.drewN m :=
  (h _).mono fun _ _ ⟨he, hm⟩ => ⟨he, m, hm⟩
theorem quiet_same2 {P : Program} {f : FuncId} {args : Array Value} {w : World} {m n : Nat} {v : Value} (h : ∀ W : World, Calls P f args W fun e w' => e = .returned v ∧ w' = W) :
    Calls P f args (w.drewN (m + n)) fun e w'' => e = .returned v ∧ ∃ k, w'' = w.drewN (m + k) :=
  (h _).mono fun _ _ ⟨he, hm⟩ => ⟨he, n, hm⟩
end Go.Proofs.Ytlegpkdighoflaa
namespace Go.Proofs.Ytlegpkdighoflaa
open Go

section
variable {P : Program} {ops : Array Oper} {md : Region.Mode} {C : World → Prop}
def wpHeadQ (P : Program) (md : Region.Mode) (ops : Array Oper) (C : World → Prop) (n : Nat) (L : Array Bool → Act → Prop) : Nat → Array Bool → Act → Prop
  | 0, listed, a => L listed a
  | f + 1, listed, a =>
    Region.ready md ops listed ≠ [] ∧ ∀ i ∈ Region.ready md ops listed, i < n ∧ qOp P ops C i (wpHeadQ P md ops C n L f (listed.setIfInBounds i true)) a
theorem wpAny_of_headQ {n g : Nat} {L : Array Bool → Act → Prop} {Q' : Exit → Act → World → Prop} (hL : ∀ listed a w, C w → L listed a → wpAny P md ops Q' g listed a w) :
    ∀ (f : Nat) (listed : Array Bool) (a : Act) (w : World), C w → wpHeadQ P md ops C n L f listed a → wpAny P md ops Q' (f + g) listed a w
  | 0, listed, a, w, hw, h => by rw [Nat.zero_add]; exact hL _ _ _ hw h
  | f + 1, listed, a, w, hw, h => by
    rw [show f + 1 + g = (f + g) + 1 by omega]
    exact ⟨fun h0 => absurd h0 h.1, fun i hi => wpOp_of_qOp hw (fun a' w' hw' h' => wpAny_of_headQ hL f _ a' w' hw' h') (h.2 i hi).2⟩
theorem wpHeadQ_first {n i : Nat} {oi : Oper} {v : Value} {L : Array Bool → Act → Prop} (hi : ops[i]? = some oi) (hsel : ∀ (j : Nat) (o : Oper) cs b, ops[j]? = some o → o.op ≠ .select cs b)
    (hs : Region.sinkB md ops n = true) (hc : Region.chainB md ops n = true) (hn : n < ops.size) (hin : i < n)
    (hdone : ∀ listed a, L listed a → ∀ j ∈ Region.ready md ops listed, n ≤ j) :
    ∀ (f : Nat) (listed : Array Bool) (a : Act), HeadInv md ops n listed →
      (∀ j oj, ops[j]? = some oj → j ≠ i → listed.getD j true = false → (∀ e ∈ oj.after, Region.binds md e = true → e.on ≠ i) → oi.apart ops oj = true) →
      i ∈ Region.ready md ops listed → YieldsIn P ops C oi v a →
      wpHeadQ P md ops C n L f (listed.setIfInBounds i true) (a.put oi.dst v) → wpHeadQ P md ops C n L (f + 1) listed a := by
  intro f
  induction f with
  | zero =>
    intro listed a inv _ hr hy H
    have hun := (mem_ready.1 hr).1
    refine ⟨fun h => (by rw [h] at hr; cases hr), fun j hj => ?_⟩
    have hjn : j < n := by
      rcases Nat.lt_or_ge j n with h | h
      · exact h
      · exact absurd hj (tail_waits hs hc hn inv _ i rfl hin hun j h)
    refine ⟨hjn, ?_⟩
    by_cases hji : j = i
    · subst hji; exact hy.qOp hi H
    · have := hdone _ _ H j (ready_mono hj hji)
      omega
  | succ f ih =>
    intro listed a inv hfree hr hy H
    have hun := (mem_ready.1 hr).1
    refine ⟨fun h => (by rw [h] at hr; cases hr), fun j hj => ?_⟩
    have hjn : j < n := by
      rcases Nat.lt_or_ge j n with h | h
      · exact h
      · exact absurd hj (tail_waits hs hc hn inv _ i rfl hin hun j h)
    refine ⟨hjn, ?_⟩
    by_cases hji : j = i
    · subst hji; exact hy.qOp hi H
    · have h1 := (H.2 j (ready_mono hj hji)).2
      obtain ⟨hjun, oj, hoj, hall⟩ := mem_ready.1 hj
      have hnot : ∀ e ∈ oj.after, Region.binds md e = true → e.on ≠ i := fun e he hb heq => by
        have h1 := hall e he hb
        rw [heq, getD_both hun] at h1
        cases h1
      have h2 := qOp_put hoj (hfree j oj hoj hji hjun hnot) (fun cs b => hsel i oi cs b hi) (fun cs b => hsel j oj cs b hoj) hy h1
      have hfree' : ∀ k ok, ops[k]? = some ok → k ≠ i → (listed.setIfInBounds j true).getD k true = false →
          (∀ e ∈ ok.after, Region.binds md e = true → e.on ≠ i) → oi.apart ops ok = true := fun k ok hk hki hun hno => by
        refine hfree k ok hk hki ?_ hno
        by_cases hjk : j = k
        · subst hjk; exact hjun
        · rw [getD_set_ne true hjk] at hun; exact hun
      refine qOp_mono (fun a' h3 => ih (listed.setIfInBounds j true) a' (inv.set hj hjn) hfree' (ready_mono hr (Ne.symm hji)) h3.1 ?_) h2
      rw [Array.setIfInBounds_comm _ _ hji]
      exact h3.2
theorem wpHeadQ_lex {n g : Nat} {Lq : Act → Prop} (hsel : Region.noSelect ops = true) (hs : Region.sinkB md ops n = true) (hc : Region.chainB md ops n = true) (hn : n < ops.size) :
    ∀ (l : List Oper) (k : Nat) (listed : Array Bool) (a : Act), (∀ j, j < l.length → l[j]? = ops[k + j]?) → k + l.length = n → HeadInv md ops n listed →
    Region.lexHead md ops g l.length k listed = true → wpQuiet P ops C Lq l a →
    wpHeadQ P md ops C n (fun listed' a' => Region.seqB md ops g n listed' = true ∧ Lq a') l.length listed a
  | [], k, listed, a, _, hk, _, hB, h => by
    have : k = n := by simpa using hk
    subst this
    exact ⟨by simpa [Region.lexHead] using hB, h⟩
  | o :: l, k, listed, a, hl, hk, inv, hB, h => by
    have h0 : ops[k]? = some o := by simpa using (hl 0 (by simp)).symm
    simp only [List.length_cons, Region.lexHead, Bool.and_eq_true] at hB
    obtain ⟨⟨hr, hf⟩, hB'⟩ := hB
    have hkn : k < n := by simp only [List.length_cons] at hk; omega
    have hr' : k ∈ Region.ready md ops listed := by simpa using hr
    have hst : qOp P ops C k (wpQuiet P ops C Lq l) a := by unfold qOp; simp only [h0]; exact h
    obtain ⟨v, hy, hK⟩ := yieldsIn_of_qOp h0 hst
    exact wpHeadQ_first h0 (Region.noSelect_spec hsel) hs hc hn hkn (fun listed' a' hL => seqB_ready hL.1) l.length listed a inv (Region.free_spec h0 hf) hr' hy
      (wpHeadQ_lex hsel hs hc hn l (k + 1) _ _ (fun j hj => by have := hl (j + 1) (by simp; omega); simpa [Nat.add_assoc, Nat.add_comm 1 j] using this) (by simp only [List.length_cons] at hk; omega) (inv.set hr' hkn) hB' hK)
/-- THE LAW, over any class of worlds that holds the one behind the draw. -/
theorem wp_quiet_tail_in (C : World → Prop) {id : Nat} {Q : Exit → Act → World → Prop} {a : Act} {w : World} {l : List Oper} (n : Nat) (hm : P.follows .mixedOrders = true) (hB : Region.lexTailB .any l.toArray n = true) (hC : C w.drew)
    (h : wpQuiet P l.toArray C (fun a' => ∀ w', C w' → wpList P l.toArray Q (l.drop n) a' w') (l.take n) a) : (Code.region id l.toArray true).wp P Q a w := by
  simp only [Region.lexTailB, Bool.and_eq_true, decide_eq_true_eq] at hB
  obtain ⟨⟨⟨⟨hsel, hn⟩, hs⟩, hc⟩, hlex⟩ := hB
  have hn' : n < l.length := by simpa using hn
  have htl : (l.take n).length = n := by simp; omega
  have hdl : (l.drop n).length = l.toArray.size - n := by simp
  have inv0 : HeadInv .any l.toArray n (Array.replicate l.toArray.size false) :=
    ⟨by simp, fun j oj _ hl => (by rw [getD_replicate_false] at hl; cases hl), fun t _ ht => getD_in (by simpa using ht) (getD_replicate_false _ _)⟩
  have H := wpHeadQ_lex (md := .any) (g := l.toArray.size - n) hsel hs hc hn (l.take n) 0 _ a (fun j hj => by
    have hj' : j < n := by rw [htl] at hj; exact hj
    simp [hj']) (by simpa using htl) inv0 (by rw [htl]; exact hlex) h
  refine wp_region_any hm ?_
  have := wpAny_of_headQ (Q' := Q) (g := l.toArray.size - n) (fun listed a' w' hw' hL => by
    have := wpAny_of_seq (md := .any) (Q' := Q) (l.drop n) n listed a' w' (fun j => by simp [List.getElem?_drop]) (by rw [hdl]; exact hL.1) (hL.2 w' hw')
    rwa [hdl] at this) _ _ _ _ hC H
  rw [htl, show n + (l.toArray.size - n) = l.toArray.size by omega] at this
  exact this
/-- .. at the class 'w behind some draws'. -/
theorem wp_quiet_tail {id : Nat} {Q : Exit → Act → World → Prop} {a : Act} {w : World} {l : List Oper} (n : Nat) (hm : P.follows .mixedOrders = true) (hB : Region.lexTailB .any l.toArray n = true)
    (h : wpQuiet P l.toArray (fun w' => ∃ n, w' = w.drewN n) (fun a' => ∀ w', (∃ n, w' = w.drewN n) → wpList P l.toArray Q (l.drop n) a' w') (l.take n) a) : (Code.region id l.toArray true).wp P Q a w :=
  wp_quiet_tail_in (fun w' => ∃ n, w' = w.drewN n) n hm hB ⟨1, rfl⟩ h
end
end Go.Proofs.Ytlegpkdighoflaa
namespace Go.Proofs.Ytlegpkdighoflaa
namespace Sh
theorem take_set {α : Type} (M : List α) (k : Nat) (x : α) (h : k < M.length) : (M.set k x).take (k + 1) = M.take k ++ [x] := by
  rw [List.take_add_one, List.take_set_of_le (by omega)]
  simp [h]
theorem getD_of_take {α : Type} (M W : List α) (d : α) (k j : Nat) (hM : M.take k = W) (hj : j < k) : M.getD j d = W.getD j d := by
  subst hM
  simp [hj]
theorem set_join {α : Type} (A B : List α) (k : Nat) (x : α) (hl : A.length = B.length) (hk : k < A.length) (hx : A[k]? = some x) :
    (A.take k ++ B.drop k).set k x = A.take (k + 1) ++ B.drop (k + 1) := by
  have ht : (A.take k).length = k := by simp; omega
  rw [List.set_append_right _ _ (by omega), ht, Nat.sub_self]
  have hb : k < B.length := by omega
  rw [List.drop_eq_getElem_cons hb]
  simp only [List.set_cons_zero]
  rw [List.take_add_one, hx]
  simp


theorem W32_lo (b : List UInt8) (M : List UInt32) (k : Nat) (hk : k < M.length) (h16 : k < 16) (h : M.take k = W32 b k) : (M.set k (word32 b k)).take (k + 1) = W32 b (k + 1) := by
  rw [take_set _ _ _ hk, h]
  show _ = W32 b k ++ [if k < 16 then word32 b k else _]
  rw [if_pos h16]
theorem W32_hi (b : List UInt8) (M : List UInt32) (k : Nat) (hk : k < M.length) (h16 : 16 ≤ k) (h : M.take k = W32 b k) :
    (M.set k (next32 (g32 M (k - 2)) (g32 M (k - 7)) (g32 M (k - 15)) (g32 M (k - 16)))).take (k + 1) = W32 b (k + 1) := by
  rw [take_set _ _ _ hk]
  show _ = W32 b k ++ [if k < 16 then word32 b k else next32 (g32 (W32 b k) (k - 2)) (g32 (W32 b k) (k - 7)) (g32 (W32 b k) (k - 15)) (g32 (W32 b k) (k - 16))]
  rw [if_neg (by omega), h]
  have e : ∀ j, j < k → g32 M j = g32 (W32 b k) j := fun j hj => getD_of_take M _ 0 k j h hj
  rw [e _ (by omega), e _ (by omega), e _ (by omega), e _ (by omega)]
theorem W32_all (b : List UInt8) (M : List UInt32) (h : M.take 64 = W32 b 64) (hM : M.length = 64) : M = W32 b 64 := by
  rw [← h, List.take_of_length_le (by omega)]
theorem add32_at (h v : List UInt32) (hh : h.length = 8) (hv : v.length = 8) (k : Nat) (hk : k < 8) : (add32 h v)[k]? = some (g32 h k + g32 v k) := by
  unfold add32 g32
  rw [List.getElem?_eq_getElem (by simp; omega)]
  simp [show k < h.length by omega, show k < v.length by omega]
/-- The sums from the left: one place more. -/
theorem add32_step (h v : List UInt32) (hh : h.length = 8) (hv : v.length = 8) (k : Nat) (hk : k < 8) :
    ((add32 h v).take k ++ h.drop k).set k (g32 h k + g32 v k) = (add32 h v).take (k + 1) ++ h.drop (k + 1) :=
  set_join _ _ _ _ (by simp [add32]; omega) (by simp [add32]; omega) (add32_at h v hh hv k hk)
theorem g32_join (A B : List UInt32) (k : Nat) (hl : k < A.length) : g32 (A.take k ++ B.drop k) k = g32 B k := by
  unfold g32
  have ht : (A.take k).length = k := by simp; omega
  rw [List.getD_eq_getElem?_getD, List.getElem?_append_right (by omega), ht]
  simp


theorem W64_lo (b : List UInt8) (M : List UInt64) (k : Nat) (hk : k < M.length) (h16 : k < 16) (h : M.take k = W64 b k) : (M.set k (word64 b k)).take (k + 1) = W64 b (k + 1) := by
  rw [take_set _ _ _ hk, h]
  show _ = W64 b k ++ [if k < 16 then word64 b k else _]
  rw [if_pos h16]
theorem W64_hi (b : List UInt8) (M : List UInt64) (k : Nat) (hk : k < M.length) (h16 : 16 ≤ k) (h : M.take k = W64 b k) :
    (M.set k (next64 (g64 M (k - 2)) (g64 M (k - 7)) (g64 M (k - 15)) (g64 M (k - 16)))).take (k + 1) = W64 b (k + 1) := by
  rw [take_set _ _ _ hk]
  show _ = W64 b k ++ [if k < 16 then word64 b k else next64 (g64 (W64 b k) (k - 2)) (g64 (W64 b k) (k - 7)) (g64 (W64 b k) (k - 15)) (g64 (W64 b k) (k - 16))]
  rw [if_neg (by omega), h]
  have e : ∀ j, j < k → g64 M j = g64 (W64 b k) j := fun j hj => getD_of_take M _ 0 k j h hj
  rw [e _ (by omega), e _ (by omega), e _ (by omega), e _ (by omega)]
theorem W64_all (b : List UInt8) (M : List UInt64) (h : M.take 80 = W64 b 80) (hM : M.length = 80) : M = W64 b 80 := by
  rw [← h, List.take_of_length_le (by omega)]
theorem add64_at (h v : List UInt64) (hh : h.length = 8) (hv : v.length = 8) (k : Nat) (hk : k < 8) : (add64 h v)[k]? = some (g64 h k + g64 v k) := by
  unfold add64 g64
  rw [List.getElem?_eq_getElem (by simp; omega)]
  simp [show k < h.length by omega, show k < v.length by omega]
/-- The sums from the left: one place more. -/
theorem add64_step (h v : List UInt64) (hh : h.length = 8) (hv : v.length = 8) (k : Nat) (hk : k < 8) :
    ((add64 h v).take k ++ h.drop k).set k (g64 h k + g64 v k) = (add64 h v).take (k + 1) ++ h.drop (k + 1) :=
  set_join _ _ _ _ (by simp [add64]; omega) (by simp [add64]; omega) (add64_at h v hh hv k hk)
theorem g64_join (A B : List UInt64) (k : Nat) (hl : k < A.length) : g64 (A.take k ++ B.drop k) k = g64 B k := by
  unfold g64
  have ht : (A.take k).length = k := by simp; omega
  rw [List.getD_eq_getElem?_getD, List.getElem?_append_right (by omega), ht]
  simp


theorem out32_at (S : List UInt32) : ∀ (k j : Nat), k < S.length → j < 4 → (out32 S)[4 * k + j]? = (bytes32 (g32 S k))[j]? := by
  unfold out32
  induction S with
  | nil => intro k j hk; simp at hk
  | cons x S ih =>
    intro k j hk hj
    have hb : (bytes32 x).length = 4 := rfl
    rw [List.flatMap_cons]
    cases k with
    | zero =>
      rw [List.getElem?_append_left (by omega)]
      simp [g32]
    | succ k =>
      rw [List.getElem?_append_right (by omega), hb]
      have := ih k j (by simpa using hk) hj
      rw [show 4 * (k + 1) + j - 4 = 4 * k + j by omega, this]
      simp [g32]
/-- The bytes from the left: one more. -/
theorem out32_set (S : List UInt32) (Z : List UInt8) (hZ : Z.length = 4 * S.length) (k j : Nat) (hk : k < S.length) (hj : j < 4) (x : UInt8) (hx : (bytes32 (g32 S k))[j]? = some x) :
    ((out32 S).take (4 * k + j) ++ Z.drop (4 * k + j)).set (4 * k + j) x = (out32 S).take (4 * k + (j + 1)) ++ Z.drop (4 * k + (j + 1)) :=
  set_join _ _ _ _ (by rw [length_out32, hZ]) (by rw [length_out32]; omega) (by rw [out32_at S k j hk hj, hx])


theorem out64_at (S : List UInt64) : ∀ (k j : Nat), k < S.length → j < 8 → (out64 S)[8 * k + j]? = (bytes64 (g64 S k))[j]? := by
  unfold out64
  induction S with
  | nil => intro k j hk; simp at hk
  | cons x S ih =>
    intro k j hk hj
    have hb : (bytes64 x).length = 8 := rfl
    rw [List.flatMap_cons]
    cases k with
    | zero =>
      rw [List.getElem?_append_left (by omega)]
      simp [g64]
    | succ k =>
      rw [List.getElem?_append_right (by omega), hb]
      have := ih k j (by simpa using hk) hj
      rw [show 8 * (k + 1) + j - 8 = 8 * k + j by omega, this]
      simp [g64]
/-- The bytes from the left: one more. -/
theorem out64_set (S : List UInt64) (Z : List UInt8) (hZ : Z.length = 8 * S.length) (k j : Nat) (hk : k < S.length) (hj : j < 8) (x : UInt8) (hx : (bytes64 (g64 S k))[j]? = some x) :
    ((out64 S).take (8 * k + j) ++ Z.drop (8 * k + j)).set (8 * k + j) x = (out64 S).take (8 * k + (j + 1)) ++ Z.drop (8 * k + (j + 1)) :=
  set_join _ _ _ _ (by rw [length_out64, hZ]) (by rw [length_out64]; omega) (by rw [out64_at S k j hk hj, hx])

end Sh
end Go.Proofs.Ytlegpkdighoflaa
