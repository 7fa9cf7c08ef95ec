/- The tree's iterator: its contract. -/
import Derived.Test.YtpalomkcgfalnaaHoistIn
import Derived.Test.YtpalomkcgfalnaaMG
import Derived.RangeFuncNested
import Derived.RangeFuncBound
import Derived.RangeFuncCalls
import Derived.RangeFuncLeaves
import Derived.RangeFuncKeeps
import Derived.Shelf.Abstract
import Derived.Shelf.RegionOpen
import Derived.WalkKit
import Derived.OwnWalkIn
import Derived.TacticsInMore
import Derived.Outline
set_option linter.unusedVariables false
set_option linter.unusedSimpArgs false
namespace Go.Proofs.Ytpalomkcgfalnaa
open Go Go.RowKit Sh
attribute [local go_sem] Oper.semAt_some
theorem room_of_none {F : Fence} (hd : F.depth = none) (k : Nat) : F.room k := fun d h => by rw [hd] at h; cases h
theorem roundAnyDepth {F : Fence} (hd : F.depth = none) {m m' : Nat} {P : Program} {l : Nat} {f : FuncId} {tmps : Array Value} {assign body : Code} {w : World} {R : Ending → World → Prop}
    (h : RoundIn F m P l f tmps assign body w R) : RoundIn F m' P l f tmps assign body w R := ⟨h.1, fun c cs _ => h.2 c cs (room_of_none hd _)⟩
theorem yieldAnyDepth {F : Fence} (hd : F.depth = none) {m : Nat} (m' : Nat) {P : Program} {l : Nat} {args : Array Value} {W : World} {R : Ending → World → Prop} (h : YieldAt F m P l args W R) : YieldAt F m' P l args W R := by
  obtain ⟨fn, tmps, assign, body, hy, hR⟩ := h
  exact ⟨fn, tmps, assign, body, hy, roundAnyDepth hd hR⟩
abbrev PrS := {p : Pr // PrOk p}
def encP (x : PrS) : Array Value := #[A8 x.1.1, A8 x.1.2]
open Classical in
/-- A tree's pairs, each with what is known of it. -/
noncomputable def Tr.prs : Tr → List PrS
  | .e => []
  | .lf k v => if h : PrOk (k, v) then [⟨(k, v), h⟩] else []
  | .nd l r => l.prs ++ r.prs
theorem prs_pairs : ∀ {t : Tr} {d : Nat} {P : Nat → Bool}, Ok d P t → t.prs.map (·.1) = t.pairs
  | .e, _, _, _ => rfl
  | .lf k v, _, _, ok => by
    have h : PrOk (k, v) := ⟨ok.1, ok.2.1⟩
    simp [Tr.prs, Tr.pairs, h]
  | .nd l r, _, _, ok => by simp only [Tr.prs, Tr.pairs, List.map_append, prs_pairs ok.2.2.1, prs_pairs ok.2.2.2]
theorem hdw (k : Nat) : Fence.wide.depth.isSome = true → 1 ≤ k := fun h => by cases h
set_option maxRecDepth 100000 in
set_option maxHeartbeats 2000000 in
theorem all_in (l n₀ N : Nat) (J Jx : List PrS → World → Prop)
    (hY : ∀ m pre (x : PrS) W, J pre W → pre.length < N → YieldAt Fence.wide m Try.prog l (encP x) W fun e W' =>
      (e = .returned (.bool true) ∧ J (pre ++ [x]) W' ∧ Below n₀ W W') ∨ (e = .returned (.bool false) ∧ Jx (pre ++ [x]) W'))
    (hJd : ∀ pre W k, J pre W → J pre (W.drewN k)) (t : Tr) :
    ∀ (d : Nat) (P : Nat → Bool) (n : Nat) (p : Value) (pre : List PrS) (W : World), Ok d P t → At W n₀ t p → J pre W → pre.length + t.prs.length ≤ N →
      CallsIn Fence.wide n Try.prog 63 #[p, .func (.yield l) #[] #[]] W fun e W' =>
        (e = .returned (.bool true) ∧ J (pre ++ t.prs) W' ∧ Below n₀ W W') ∨ (e = .returned (.bool false) ∧ ∃ q, q <+: t.prs ∧ Jx (pre ++ q) W') := by
  induction t with
  | e =>
    intro d P n p pre W ok ht hJ hN
    obtain rfl : p = .pointer none := ht
    refine callsIn_of_wp Try.func63 rfl trivial ?_ rfl
    simp only [Try.ntmps63, List.size_toArray, List.length_cons, List.length_nil, Nat.reduceAdd, Nat.reduceSub, Array.replicate_succ, Array.replicate_zero, List.push_toArray, List.append_toArray, List.nil_append, List.cons_append]
    gi_wp2_with ((try refine ⟨trivial, ?_⟩); (try refine ⟨hdw _, ?_⟩); gi_at_call 60; refine (callsIn_wide.2 (len_any .e (.pointer none) W n₀ rfl)).mono ?_; rintro e W1 ⟨rfl, rfl⟩; dsimp only [Tr.len])
    go_ret
    exact .inl ⟨rfl, by simpa [Tr.prs] using hJ, Below.refl _ _⟩
  | lf k v =>
    intro d P n p pre W ok ht hJ hN
    obtain ⟨g, rfl, hg, hk, hv, hb⟩ := ht
    have hp : PrOk (k, v) := ⟨hk, hv⟩
    have hprs : (Tr.lf k v).prs = [⟨(k, v), hp⟩] := by simp [Tr.prs, hp]
    rw [hprs] at hN ⊢
    have hkk := node_key hb hk
    have hvv := node_value hb hk hv
    have hkd : rowAt W.drew ⟨g, 0, none⟩ 32 = some (c8 k) := hkk
    have hvd : rowAt W.drew ⟨g, 32, none⟩ 32 = some (c8 v) := hvv
    have ht2 : At W n₀ (.lf k v) (.pointer (some ⟨g, 0, none⟩)) := ⟨g, rfl, hg, hk, hv, hb⟩
    have hmo : Try.prog.follows .mixedOrders = true := by kernel_rfl
    refine callsIn_of_wp Try.func63 rfl trivial ?_ rfl
    simp only [Try.ntmps63, List.size_toArray, List.length_cons, List.length_nil, Nat.reduceAdd, Nat.reduceSub, Array.replicate_succ, Array.replicate_zero, List.push_toArray, List.append_toArray, List.nil_append, List.cons_append]
    gi_wp2_with ((try refine ⟨trivial, ?_⟩); (try refine ⟨hdw _, ?_⟩); gi_at_call 60; refine (callsIn_wide.2 (len_any (.lf k v) _ W n₀ ht2)).mono ?_; rintro e W1 ⟨rfl, hW1⟩; rw [hW1]; clear hW1; dsimp only [Tr.len])
    refine wpIn_quiet_tail free_wide (fun w' => ∃ k, w' = W.drewN k) 9 hmo (by kernel_rfl) (by kernel_rfl) ⟨1, rfl⟩ ?_
    simp only [List.take_succ_cons, List.take_zero, List.drop_succ_cons, List.drop_zero]
    repeat (go_big_quiet_step (fail))
    refine wpQuiet_nil ?_
    rintro w1 ⟨nq, rfl⟩
    obtain ⟨fn, tmps, assign, body, hy, hR⟩ := hY (n - 1) pre ⟨(k, v), hp⟩ (W.drewN nq) (hJd _ _ _ hJ) (by simp at hN; omega)
    dsimp only [encP] at hy
    gi_wp2_with ((try refine ⟨trivial, ?_⟩); (try refine ⟨hdw _, ?_⟩); refine hR.mono ?_; rintro e W2 (⟨rfl, hJ2, hb2⟩ | ⟨rfl, hx2⟩))
    · go_ret
      exact .inl ⟨rfl, hJ2, (below_drewN (Below.refl n₀ W) nq).trans hb2⟩
    · go_ret
      exact .inr ⟨rfl, [⟨(k, v), hp⟩], List.prefix_refl _, hx2⟩
  | nd tl tr ihl ihr =>
    intro d P n p pre W ok ht hJ hN
    have ht2 := ht
    obtain ⟨g, pl, pr, rfl, hg, hb, hatl, hatr⟩ := ht
    obtain ⟨al, rfl⟩ := hatl.form
    obtain ⟨ar, rfl⟩ := hatr.form
    have c0 := node_left hb (length_z8 32) (length_z8 32)
    have c1 := node_right hb (length_z8 32) (length_z8 32)
    have hm2 : 2 ≤ (Tr.nd tl tr).len := ok.2.1
    simp only [Tr.prs, List.length_append] at hN
    obtain ⟨m, hm⟩ : ∃ m, m = (Tr.nd tl tr).len := ⟨_, rfl⟩
    rw [← hm] at hm2
    have Hm := Lib.hid hm.symm
    clear hm
    have hne0 : ((m : Int) == 0) = false := by rw [beq_eq_false_iff_ne]; omega
    have hne1 : ((m : Int) == 1) = false := by rw [beq_eq_false_iff_ne]; omega
    have ih1 := (ihl (d + 1) _ (n - 1) _ pre W ok.2.2.1 hatl hJ (by omega)).mono (R' := fun e W1 =>
        (e = .returned (.bool true) ∧ J (pre ++ tl.prs) W1 ∧ W1.cell? ⟨g, 65, none⟩ = some (.pointer ar) ∧ At W1 n₀ tr (.pointer ar) ∧ Below n₀ W W1) ∨
        (e = .returned (.bool false) ∧ ∃ q, q <+: tl.prs ∧ Jx (pre ++ q) W1))
      (fun e W1 h => h.elim (fun ⟨he, hj, hb1⟩ => .inl ⟨he, hj, (hb1.cell (p := ⟨g, 65, none⟩) hg).trans c1, hatr.below hb1, hb1⟩) .inr)
    clear ihl hb hatl
    refine callsIn_of_wp Try.func63 rfl trivial ?_ rfl
    simp only [Try.ntmps63, List.size_toArray, List.length_cons, List.length_nil, Nat.reduceAdd, Nat.reduceSub, Array.replicate_succ, Array.replicate_zero, List.push_toArray, List.append_toArray, List.nil_append, List.cons_append]
    gi_wp2_with (first
      | ((try refine ⟨trivial, ?_⟩); (try refine ⟨hdw _, ?_⟩); gi_at_call 60; refine (callsIn_wide.2 (len_any (.nd tl tr) _ W n₀ ht2)).mono ?_; rintro e W1 ⟨rfl, hW1⟩; rw [hW1, Hm.out]; clear hW1)
      | ((try refine ⟨trivial, ?_⟩); (try refine ⟨hdw _, ?_⟩); gi_at_call 63; refine ih1.mono ?_; clear ih1; rintro e W1 (⟨rfl, hJ1, c1', hatr1, hb1⟩ | ⟨rfl, q, hq, hx1⟩))
      | ((try refine ⟨trivial, ?_⟩); (try refine ⟨hdw _, ?_⟩); gi_at_call 63; refine (ihr (d + 1) _ (n - 1) _ _ _ ok.2.2.2 hatr1 hJ1 (by simp; omega)).mono ?_; rintro e W3 (⟨rfl, hJ3, hb3⟩ | ⟨rfl, q, hq, hx3⟩)))
    · go_ret
      exact .inl ⟨rfl, by simpa [Tr.prs, List.append_assoc] using hJ3, hb1.trans hb3⟩
    · go_ret
      obtain ⟨r, hr'⟩ := hq
      exact .inr ⟨rfl, tl.prs ++ q, ⟨r, by simp [Tr.prs, ← hr']⟩, by simpa [List.append_assoc] using hx3⟩
    · refine ⟨trivial, ?_⟩
      gi_wp2
      go_ret
      exact .inr ⟨rfl, q, hq.trans (by simp [Tr.prs]), hx1⟩
set_option maxHeartbeats 1000000 in
theorem all1_in (n l Bt n₀ : Nat) (p0 : Value) (dd : Value) (t : Tr) (d : Nat) (P : Nat → Bool) (ok : Ok d P t) (J Jx : List PrS → World → Prop)
    (hY : ∀ pre (x : PrS) W, J pre W → pre.length < t.prs.length → YieldAt Fence.wide (n - 1) Try.prog l (encP x) W fun e W' =>
      (e = .returned (.bool true) ∧ J (pre ++ [x]) W' ∧ Below n₀ W W') ∨ (e = .returned (.bool false) ∧ Jx (pre ++ [x]) W'))
    (hJd : ∀ pre W k, J pre W → J pre (W.drewN k)) (W : World) (hBt : Bk W Bt 40 [p0, dd]) (hT : At W n₀ t p0) (h0 : J [] W) :
    CallsIn Fence.wide n Try.prog 62 #[.func (.yield l) #[] #[], .pointer (some ⟨Bt, 0, none⟩)] W fun e W' => (∃ v, e = .returned v) ∧
      ((∃ ys, ys = t.prs ∧ J ys W') ∨ (∃ pre, pre <+: t.prs ∧ Jx pre W')) := by
  obtain ⟨ap, rfl⟩ := hT.form
  have c0 : W.cell? ⟨Bt, 0, none⟩ = some (.pointer ap) := hBt.at_ rfl
  have hp := all_in l n₀ t.prs.length J Jx (fun m pre x W hj hl => yieldAnyDepth rfl m (hY pre x W hj hl)) hJd t d P (n - 1) _ [] W ok hT h0 (by simp)
  refine callsIn_of_wp Try.func62 rfl trivial ?_ rfl
  simp only [Try.ntmps62, List.size_toArray, List.length_cons, List.length_nil, Nat.reduceAdd, Nat.reduceSub, Array.replicate_succ, Array.replicate_zero, List.push_toArray, List.append_toArray, List.nil_append, List.cons_append]
  gi_wp2_with ((try refine ⟨trivial, ?_⟩); (try refine ⟨hdw _, ?_⟩); gi_at_call 63; refine hp.mono ?_; clear hp; rintro e W1 (⟨rfl, hJ1, _⟩ | ⟨rfl, q, hq, hx⟩))
  · go_end0
    exact ⟨⟨_, rfl⟩, .inl ⟨_, rfl, by simpa using hJ1⟩⟩
  · go_end0
    exact ⟨⟨_, rfl⟩, .inr ⟨q, hq, by simpa using hx⟩⟩
/-- t.All(): the receiver is boxed; the function value captures the box. -/
theorem tall_any (p0 dd : Value) (w : World) (n : Nat) :
    CallsIn Fence.wide n Try.prog 31 #[.agg #[p0, dd]] w fun e w' => e = .returned (.func (.func 62) #[] #[.pointer (some ⟨w.heap.size, 0, none⟩)]) ∧ w' = w.alloc (.cells #[p0, dd] 40) := by
  refine callsIn_of_wp Try.func31 rfl trivial ?_ rfl
  simp only [Try.ntmps31, List.size_toArray, List.length_cons, List.length_nil, Nat.reduceAdd, Nat.reduceSub, Array.replicate_succ, Array.replicate_zero, List.push_toArray, List.append_toArray, List.nil_append, List.cons_append]
  gi_wp2
  go_ret
  exact ⟨rfl, rfl⟩
theorem tall_stops (n Bt n₀ : Nat) (p0 dd : Value) (t : Tr) (d : Nat) (P : Nat → Bool) (ok : Ok d P t) (w : World) (hBt : Bk w Bt 40 [p0, dd]) (hn₀ : n₀ ≤ w.heap.size) (hT : At w n₀ t p0) :
    SeqStopsK Fence.wide n Try.prog 62 #[.pointer (some ⟨Bt, 0, none⟩)] encP (Below n₀) (fun ys => ys = t.prs) (fun pre => pre <+: t.prs) t.prs.length w := fun l J Jx W hW hJ _ hY h0 =>
  all1_in n l Bt n₀ p0 dd t d P ok J Jx hY (fun pre V k hv => hJ pre V (V.drewN k) none hv ⟨rfl, rfl, rfl, Nat.le_refl _, fun _ _ _ => rfl⟩ (fun r e => by cases e)) W (hBt.below hW hBt.lt) (hT.below (hW.mono hn₀)) h0
end Go.Proofs.Ytpalomkcgfalnaa
