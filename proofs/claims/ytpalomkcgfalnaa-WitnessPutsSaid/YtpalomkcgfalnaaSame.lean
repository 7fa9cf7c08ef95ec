/- witanlaw09.same: a tree has just these pairs. -/
import Derived.Test.YtpalomkcgfalnaaAll
import Derived.Test.YtpalomkcgfalnaaMO
import Derived.Test.YtpalomkcgfalnaaPairEq
import Derived.RangeFuncNested
import Derived.Outline
set_option linter.unusedVariables false
set_option linter.unusedSimpArgs false
namespace Go.Proofs.Ytpalomkcgfalnaa
open Go Go.RowKit Sh
@[go_sem ↓ high] theorem run_semAt_some {P : Program} {w : World} (l : Nat) (ρ : Operand → Value) (o : Oper) (h : (match o.op with | .defer _ => false | _ => true) = true) : (Oper.semAt (some l) ρ o).run P w = (execOp ρ o).run P w := by
  rw [Oper.semAt_eq]
  intro c e
  rw [e] at h
  cases h
@[go_sem ↓ high] theorem run_semAt_inRound {P : Program} {w : World} (F : Fence) (l : Nat) (ρ : Operand → Value) (o : Oper) (h : (match o.op with | .defer _ => false | _ => true) = true) : (Oper.semAt (F.inRound l).round ρ o).run P w = (execOp ρ o).run P w := run_semAt_some l ρ o h
attribute [local go_sem] Oper.semAt_some
theorem bk_own {A B : World} {row : Option Nat} {g : Nat} {t : TypeId} {cs : List Value} (h : Bk A g t cs) (hg : A.grownBy B row) (hr : ∀ r, row = some r → ∃ o : Obj, A.heap[r]? = some o ∧ o.isCells = false) : Bk B g t cs := by
  refine h.grown hg fun e => ?_
  obtain ⟨o, ho, hc⟩ := hr g e.symm
  unfold Bk at h
  rw [h] at ho
  injection ho with ho
  subst ho
  cases hc
theorem keeps_drewN (W : World) (n : Nat) : KeepsOthers W (W.drewN n) := ⟨Nat.le_refl _, fun _ _ h _ => h⟩
theorem keeps_putAt (W : World) (g o : Nat) : ∀ (cs : List Value), KeepsOthers W (putAt W ⟨g, o, none⟩ cs) := by
  have : ∀ (cs : List Value) (o : Nat) (W : World), KeepsOthers W (W.setCells g o cs) := by
    intro cs
    induction cs with
    | nil => intro o W; exact KeepsOthers.refl W
    | cons v r ih => intro o W; exact (KeepsOthers.setCell W ⟨g, o, none⟩ v).trans (ih (o + 1) _)
  exact fun cs => this cs o W
def SameI (w : World) (gs gr gi : Nat) (sv : Value) (l : List Pr) (pre : List PrS) (W : World) : Prop :=
  (pre.map (·.1) = l.take pre.length ∧ pre.length ≤ l.length) ∧ (Bk W gi 3 [.int .i64 (pre.length : Int)] ∧ Bk W gr 4 [.bool false] ∧ Bk W gs 34 [sv]) ∧ Below w.heap.size w W
theorem sameI_own (w : World) (gs gr gi : Nat) (sv : Value) (l : List Pr) {B : Nat} (hB : w.heap.size ≤ B) : OwnFrom B (SameI w gs gr gi sv l) := by
  intro s X Y row hs hg hr
  obtain ⟨h1, ⟨h2, h3, h4⟩, h5⟩ := hs
  have hr2 : ∀ r, row = some r → ∃ o : Obj, X.heap[r]? = some o ∧ o.isCells = false := fun r e => (hr r e).2
  exact ⟨h1, ⟨bk_own h2 hg hr2, bk_own h3 hg hr2, bk_own h4 hg hr2⟩, h5.grown hg h5.size (fun k e => Nat.le_trans hB (hr k e).1)⟩
theorem sameI_ext {w : World} {gs gr gi : Nat} {sv : Value} {l : List Pr} {pre : List PrS} {W W' : World} (h : SameI w gs gr gi sv l pre W) (hb : Below W.heap.size W W') : SameI w gs gr gi sv l pre W' :=
  ⟨h.1, ⟨h.2.1.1.below hb h.2.1.1.lt, h.2.1.2.1.below hb h.2.1.2.1.lt, h.2.1.2.2.below hb h.2.1.2.2.lt⟩, below_two h.2.2 hb h.2.2.size⟩
theorem pb_inj {p q : Pr} (hp : PrOk p) (hq : PrOk q) (h : pb p = pb q) : p = q := by
  unfold pb at h
  have := List.append_inj h (by rw [hp.1, hq.1])
  exact Prod.ext this.1 this.2
theorem take_map_step {l : List Pr} {pre : List PrS} {x : PrS} (h : pre.map (·.1) = l.take pre.length) (hx : l[pre.length]? = some x.1) : (pre ++ [x]).map (·.1) = l.take (pre ++ [x]).length := by
  rw [List.map_append, h, List.length_append, List.length_singleton, List.take_add_one, hx]
  rfl
set_option maxRecDepth 100000 in
set_option maxHeartbeats 4000000 in
theorem same_any (t : Tr) (p : Value) (v : Value) (w : World) (ok : Okt t) (hlen : t.len ≤ 1000000) (hat : At w w.heap.size t p) (hv : Ps w 0 w.heap.size v t.pairs) :
    Calls Try.prog 30 #[.agg #[p, .int .i64 0], v] w fun e w' => e = .returned (.bool true) ∧ Below w.heap.size w w' := by
  obtain ⟨ap, rfl⟩ := hat.form
  obtain ⟨l, hl⟩ : ∃ l, l = t.pairs := ⟨_, rfl⟩
  have hll0 : l.length = t.len := by rw [hl, Tr.len_pairs]
  have hlb : l.length ≤ 1000000 := by omega
  have hneq : ((t.len : Int) != (l.length : Int)) = false := by rw [hll0]; simp
  have Hll := Lib.hid hll0
  clear hll0
  have Hl := Lib.hid hl
  rw [← hl] at hv
  clear hl
  obtain ⟨A, c, hv1, hc1, hc2⟩ := hv.form
  subst hv1
  refine (callsIn_wide (n := 9)).1 ?_
  refine callsIn_of_wp_marks Try.func30 rfl trivial ?_ rfl
  simp only [Try.ntmps30, List.size_toArray, List.length_cons, List.length_nil, Nat.reduceAdd, Nat.reduceSub, Array.replicate_succ, Array.replicate_zero, List.push_toArray, List.append_toArray, List.nil_append, List.cons_append]
  refine wpIn_wide.2 ?_
  go_wp2_with fail
  obtain ⟨w1, hw1⟩ : ∃ x, x = ((w.alloc (Obj.cells #[.pointer ap, .int .i64 0] 40)).alloc (Obj.cells #[.slice A l.length c] 34)).alloc (Obj.cells #[.bool false] 4) := ⟨_, rfl⟩
  rw [← hw1]
  have B1 : Below w.heap.size w w1 := by rw [hw1]; exact (((Below.refl _ _).alloc (Nat.le_refl _) _).alloc (by simp) _).alloc (by simp; omega) _
  have T1 : Bk w1 w.heap.size 40 [.pointer ap, .int .i64 0] := by rw [hw1]; exact ((Bk.new w _ [.pointer ap, .int .i64 0]).alloc _).alloc _
  have S1 : Bk w1 (w.heap.size + 1) 34 [.slice A l.length c] := by rw [hw1]; exact (by simpa using Bk.new (w.alloc (Obj.cells #[.pointer ap, .int .i64 0] 40)) 34 [.slice A l.length c] : Bk _ _ _ _).alloc _
  have R1 : Bk w1 (w.heap.size + 1 + 1) 4 [.bool false] := by rw [hw1]; simpa using Bk.new ((w.alloc (Obj.cells #[.pointer ap, .int .i64 0] 40)).alloc (Obj.cells #[.slice A l.length c] 34)) 4 [.bool false]
  clear hw1
  have z1 := R1.lt
  have c0 : w1.cell? ⟨w.heap.size, 0, none⟩ = some (.pointer ap) := T1.at_ rfl
  have c1 : w1.cell? ⟨w.heap.size, 1, none⟩ = some (.int .i64 0) := T1.at_ rfl
  have c2 : w1.cell? ⟨w.heap.size + 1, 0, none⟩ = some (.slice A l.length c) := S1.at_ rfl
  have hat1 := (hat.below B1).more B1.size
  have hv1 := (hv.below B1).more B1.size
  have hrl := Tr.root_length t
  refine wp_ext (by kernel_rfl) (by kernel_rfl) ?_
  have zT := T1.lt
  have zS := S1.lt
  repeat (go_big_quiet_step (first | (go_at_call 25; exact quiet_ext (fun W hW => tlen_any t (.pointer ap) 0 W ((hat1.below hW).more hW.size))) | (go_at_call 23; exact quiet_ext (fun W hW => troot_any t (.pointer ap) 0 W ((hat1.below hW).more hW.size))) | (go_at_call 24; exact quiet_ext (fun W hW => refroot_any t 0 _ P0 _ W rfl ok (by omega) (by omega) (by rw [← Hl.out]; exact (hv1.below hW).more hW.size)))))
  refine wpQuiet_nil ?_
  rintro w2 ⟨p2, hw2⟩
  have Be : Below w1.heap.size w1 w2 := by rw [hw2]; exact below_ext w1 p2
  have T2 := T1.below Be T1.lt
  have S2 := S1.below Be S1.lt
  have R2 := R1.below Be R1.lt
  have B2 := below_two B1 Be B1.size
  clear hw2 c0 c1 c2 hat1 hv1 hneq T1 S1 R1 B1
  have z2 := R2.lt
  have c0 : w2.cell? ⟨w.heap.size, 0, none⟩ = some (.pointer ap) := T2.at_ rfl
  have c1 : w2.cell? ⟨w.heap.size, 1, none⟩ = some (.int .i64 0) := T2.at_ rfl
  have zT2 := T2.lt
  go_wp2_with fail
  obtain ⟨w3, hw3⟩ : ∃ x, x = w2.alloc (Obj.cells #[.int .i64 0] 3) := ⟨_, rfl⟩
  rw [← hw3]
  have I3 : Bk w3 w2.heap.size 3 [.int .i64 0] := by rw [hw3]; exact Bk.new w2 _ [.int .i64 0]
  have hb3 : Below w2.heap.size w2 w3 := by rw [hw3]; exact (Below.refl _ _).alloc (Nat.le_refl _) _
  have S3 := S2.below hb3 S2.lt
  have R3 := R2.below hb3 R2.lt
  have B3 := below_two B2 hb3 B2.size
  clear hw3 hb3 c0 c1 zT2 T2 S2 R2 B2
  refine (callsIn_wide.1 (tall_any (.pointer ap) (.int .i64 0) w3 5)).mono ?_
  rintro e w4 ⟨rfl, hw4⟩
  have T4 : Bk w4 w3.heap.size 40 [.pointer ap, .int .i64 0] := by rw [hw4]; exact Bk.new w3 _ [.pointer ap, .int .i64 0]
  have hb4 : Below w3.heap.size w3 w4 := by rw [hw4]; exact (Below.refl _ _).alloc (Nat.le_refl _) _
  have S4 := S3.below hb4 S3.lt
  have R4 := R3.below hb4 R3.lt
  have I4 := I3.below hb4 I3.lt
  have B4 := below_two B3 hb4 B3.size
  clear hw4 hb4 S3 R3 I3 B3
  go_wp2_with fail
  have zi := I4.lt
  have hn4 := B4.size
  have hat4 := hat.below B4
  have hNl : t.prs.length = l.length := by rw [Hl.out, ← prs_pairs ok, List.length_map]
  have hprs : t.prs.map (·.1) = l := by rw [prs_pairs ok, Hl.out]
  have hlen0 := Hl
  obtain ⟨N, hN⟩ : ∃ N, N = t.prs.length := ⟨_, rfl⟩
  refine (wpIn_wide (n := 5)).1 ?_
  refine wpIn_rangeFunc_ownH (F := Fence.wide) (n := 5) rfl (by omega) (gf := 62) (lb := #[.pointer (some ⟨w3.heap.size, 0, none⟩)]) rfl trivial (enters_of Try.func62 (by kernel_rfl) rfl)
    (tall_stops (5 - 1) w3.heap.size w.heap.size (.pointer ap) (.int .i64 0) t 0 P0 ok w4 T4 hn4 hat4) belowK_t (belowK_b hn4) (Below.refl _ _) (fun _ => rfl)
    (SameI w (w.heap.size + 1) (w.heap.size + 1 + 1) w2.heap.size (.slice A l.length c) l) (fun _ pre _ => ¬ (pre.map (·.1) <+: l)) (sameI_own _ _ _ _ _ _ hn4) (fun _ => ownFrom_pure _ _)
    ⟨⟨by simp, by simp⟩, ⟨I4, R4, S4⟩, B4⟩
    (fun x a' W => ∃ gk gv : Nat, w.heap.size ≤ gk ∧ w.heap.size ≤ gv ∧ Bk W gk 25 (c8 x.1.1) ∧ Bk W gv 25 (c8 x.1.2) ∧ a' = { tmps := (.agg #[.pointer ap, .int .i64 0] :: .slice A l.length c :: .pointer (some ⟨w.heap.size, 0, none⟩) :: .pointer (some ⟨w.heap.size + 1, 0, none⟩) :: .pointer (some ⟨w.heap.size + 1 + 1, 0, none⟩) :: .pointer (some ⟨w2.heap.size, 0, none⟩) :: .pointer (some ⟨gk, 0, none⟩) :: .pointer (some ⟨gv, 0, none⟩) :: .agg #[.pointer ap, .int .i64 0] :: .int .i64 (t.len : Int) :: .slice A l.length c :: .int .i64 (l.length : Int) :: .bool false :: .bool false :: .agg #[.pointer ap, .int .i64 0] :: A8 t.root :: .slice A l.length c :: A8 t.root :: .bool false :: .bool false :: .agg #[.pointer ap, .int .i64 0] :: .func (.func 62) #[] #[.pointer (some ⟨w3.heap.size, 0, none⟩)] :: A8 x.1.1 :: A8 x.1.2 :: undef :: undef :: undef :: undef :: undef :: undef :: undef :: undef :: undef :: undef :: undef :: undef :: undef :: undef :: undef :: undef :: undef :: undef :: undef :: undef :: []).toArray, defers := [] })
    (fun x a' => by
      intro s X Y row hs hg hr
      obtain ⟨gk, gv, h1, h2, h3, h4, h5⟩ := hs
      have hr2 : ∀ r, row = some r → ∃ o : Obj, X.heap[r]? = some o ∧ o.isCells = false := fun r e => (hr r e).2
      exact ⟨gk, gv, h1, h2, bk_own h3 hg hr2, bk_own h4 hg hr2, h5⟩) ?rassign ?rbody ?rdone ?rstop
  case rassign =>
    rintro lp pre ⟨⟨k, x⟩, hx⟩ W K hI hK
    have hk := hx.1
    have hx2 := hx.2
    simp only at hk hx2
    simp only [encP]
    have hcan : canAt (W.alloc (Obj.cells (c8 (z8 32)).toArray 25)) ⟨W.heap.size, 0, none⟩ 32 = true := (Bk.new W _ _).can (by simp)
    obtain ⟨W1, hW1⟩ : ∃ y, y = putAt (W.alloc (Obj.cells (c8 (z8 32)).toArray 25)) ⟨W.heap.size, 0, none⟩ (c8 k) := ⟨_, rfl⟩
    have hs1 : W1.heap.size = W.heap.size + 1 := by rw [hW1]; simp
    have hcan2 : canAt (W1.alloc (Obj.cells (c8 (z8 32)).toArray 25)) ⟨W.heap.size + 1, 0, none⟩ 32 = true := by rw [← hs1]; exact (Bk.new W1 _ _).can (by simp)
    rw [hW1] at hcan2
    gi_wp2
    obtain ⟨W2, hW2⟩ : ∃ y, y = putAt ((putAt (W.alloc (Obj.cells (c8 (z8 32)).toArray 25)) ⟨W.heap.size, 0, none⟩ (c8 k)).alloc (Obj.cells (c8 (z8 32)).toArray 25)) ⟨W.heap.size + 1, 0, none⟩ (c8 x) := ⟨_, rfl⟩
    rw [← hW2]
    rw [← hW1] at hW2
    have hb1 : Below W.heap.size W W1 := by rw [hW1]; exact below_putAt ((Below.refl _ _).alloc (Nat.le_refl _) _) (Nat.le_refl _) _
    have hb2 : Below W.heap.size W W2 := by rw [hW2]; exact below_putAt (hb1.alloc (by omega) _) (by simp) _
    have K1 : Bk W1 W.heap.size 25 (c8 k) := by rw [hW1]; exact Bk.fresh W _ (by simp [hk])
    have K2 : Bk W2 W.heap.size 25 (c8 k) := by rw [hW2]; exact (K1.alloc _).putFar (by simp) _
    have V2 : Bk W2 (W.heap.size + 1) 25 (c8 x) := by rw [hW2, ← hs1]; exact Bk.fresh W1 _ (by simp [hx2])
    have hkp : KeepsOthers W W2 := by rw [hW2, hW1]; exact (((KeepsOthers.alloc W _).trans (keeps_putAt _ _ _ _)).trans (KeepsOthers.alloc _ _)).trans (keeps_putAt _ _ _ _)
    exact hK _ _ (hkp.from _) (hb2.mono hI.2.2.size) (sameI_ext hI hb2) ⟨W.heap.size, W.heap.size + 1, hI.2.2.size, by have := hI.2.2.size; omega, K2, V2, rfl⟩
  case rbody =>
    rintro lp pre ⟨⟨k, x⟩, hx⟩ a' W hl hlr hI ⟨gk, gv, hgk, hgv, Kk, Kv, rfl⟩ hlt
    obtain ⟨⟨hp1, hp2⟩, ⟨Ki, Kr, Ks⟩, Bw⟩ := hI
    have hk := hx.1
    have hx2 := hx.2
    simp only at hk hx2
    rw [hNl] at hlt
    have zi4 := Ki.lt
    have zr4 := Kr.lt
    have ci : W.cell? ⟨w2.heap.size, 0, none⟩ = some (.int .i64 (pre.length : Int)) := Ki.at_ rfl
    have cs : W.cell? ⟨w.heap.size + 1, 0, none⟩ = some (.slice A l.length c) := Ks.at_ rfl
    have rk := Kk.rows
    rw [length_c8, hk] at rk
    have rv := Kv.rows
    rw [length_c8, hx2] at rv
    obtain ⟨q, hq⟩ : ∃ q, l[pre.length]? = some q := ⟨_, List.getElem?_eq_getElem hlt⟩
    have hqok : PrOk q := hv.1 q (List.mem_of_getElem? hq)
    have hmo : Try.prog.follows .mixedOrders = true := by kernel_rfl
    have hge : decide ((l.length : Int) ≤ (pre.length : Int)) = false := decide_eq_false (by omega)
    obtain ⟨g, o, c', hs⟩ := (hv.below Bw).sub
    rcases hs with ⟨hrow, _, hg, hA, _, _⟩ | hs
    · injection hA with hA _ hA3
      subst hA hA3
      have hqa := (hrow _ q hq).1
      have hI0 : SameI w (w.heap.size + 1) (w.heap.size + 1 + 1) w2.heap.size (.slice (some ⟨g, o, none⟩) l.length c) l pre W := ⟨⟨hp1, hp2⟩, ⟨Ki, Kr, Ks⟩, Bw⟩
      have Hq := Lib.hid hq
      have Hp1 := Lib.hid hp1
      clear hrow hq hp1
      generalize hi : pre.length = i at *
      have Hi := Lib.hid hi
      clear hi
      have hge2 : decide (l.length ≤ i) = false := decide_eq_false (by omega)
      have fi := Ki.frozen 0
      have fr := Kr.frozen 0
      have cr := Kr.at_ (i := 0) rfl
      by_cases hqx : pb q = pb (k, x)
      · have hpq : (pb q == pb (k, x)) = true := by simp [hqx]
        gi_wp2
        refine wpIn_quiet (free_round lp) (fun w' => ∃ n, w' = W.drewN n) hmo (by kernel_rfl) (by kernel_rfl) ⟨1, rfl⟩ ?_
        repeat (go_big_quiet_step (fail))
        refine wpQuiet_nil ?_
        rintro w' ⟨nq, rfl⟩
        gi_wp2
        have hb5 : Below w.heap.size W ((W.drewN nq).setCell ⟨w2.heap.size, 0, none⟩ (.int .i64 ((i : Int) + 1))) := (below_drewN (Below.refl _ _) nq).setCell (p := ⟨w2.heap.size, 0, none⟩) (by simp; omega) _
        refine ⟨((keeps_drewN W nq).trans (KeepsOthers.setCell _ _ _)).from _, hb5, ⟨take_map_step (by rw [Hi.out]; exact Hp1.out) (by rw [Hi.out, Hq.out]; exact congrArg some (pb_inj hqok hx hqx)), by rw [List.length_append, Hi.out]; simp; omega⟩, ⟨?_, ?_, ?_⟩, Bw.trans hb5⟩
        · have := (Ki.drewN nq).set_ 0 (.int .i64 ((i : Int) + 1))
          rw [List.length_append, Hi.out]
          simpa using this
        · exact (Kr.drewN nq).far (by simp; have := z2; omega) _
        · exact (Ks.drewN nq).far (by simp; have := z2; omega) _
      · have hpq : (pb q == pb (k, x)) = false := by simp [hqx]
        gi_wp2
        refine wpIn_quiet (free_round lp) (fun w' => ∃ n, w' = W.drewN n) hmo (by kernel_rfl) (by kernel_rfl) ⟨1, rfl⟩ ?_
        repeat (go_big_quiet_step (fail))
        refine wpQuiet_nil ?_
        rintro w' ⟨nq, rfl⟩
        gi_wp2
        refine ⟨((keeps_drewN W nq).trans (KeepsOthers.setCell _ _ _)).from _, fun hpx => hqx ?_⟩
        obtain ⟨r, hr⟩ := hpx
        have h1 : l[i]? = some (k, x) := by
          rw [← hr, ← Hi.out]
          simp
        rw [Hq.out] at h1
        injection h1 with h1
        rw [h1]
    · subst hs; simp at hlt
  case rdone =>
    rintro D ys W hD rfl hI hKD
    obtain ⟨⟨hp1, hp2⟩, ⟨Ki, Kr, Ks⟩, Bw⟩ := hI
    rw [hNl] at Ki
    have zi4 := Ki.lt
    have ci : W.cell? ⟨w2.heap.size, 0, none⟩ = some (.int .i64 (l.length : Int)) := Ki.at_ rfl
    have cs : W.cell? ⟨w.heap.size + 1, 0, none⟩ = some (.slice A l.length c) := Ks.at_ rfl
    have cr := Kr.at_ (i := 0) rfl
    have fr := Kr.frozen 0
    dsimp only
    go_wp2_with fail
    have hK' := (KeepsOthers.setCell W ⟨w.heap.size + 1 + 1, 0, none⟩ (.bool true)).same D _ hKD rfl
    refine ⟨by simp, .inl ⟨_, _, rfl, run_takeDeferred hK', ?_⟩⟩
    have hc5 := cell_kept (World.cell?_setCell_same' W ⟨w.heap.size + 1 + 1, 0, none⟩ (.bool true) (by rw [cr]; rfl)) (grownBy_putObj' _ D (.deferred none)) (fun r e => by cases e; exact ⟨_, hK', rfl⟩)
    refine ⟨.bool true, ?_, rfl, (Bw.setCell (p := ⟨w.heap.size + 1 + 1, 0, none⟩) (by simp; omega) _).trans (belowK_b (w := w4) hn4 _ D _ _ hD hK' rfl rfl)⟩
    simp [results, Try.f30, go_sem, hc5]
  case rstop =>
    rintro D cc pre W hD hpre hne hKD
    exact absurd (by
      obtain ⟨r, hr⟩ := hpre
      refine ⟨r.map (·.1), ?_⟩
      rw [← List.map_append, hr, hprs]) hne
end Go.Proofs.Ytpalomkcgfalnaa
