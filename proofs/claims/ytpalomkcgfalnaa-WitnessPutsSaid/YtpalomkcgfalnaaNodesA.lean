/- Tree.Leaf; witanlaw09.listed. -/
import Derived.Test.YtpalomkcgfalnaaSame
import Derived.Outline
set_option linter.unusedVariables false
set_option linter.unusedSimpArgs false
namespace Go.Proofs.Ytpalomkcgfalnaa
open Go Go.RowKit Sh
attribute [local go_sem] Oper.semAt_some
theorem liftIn {F : Fence} {n : Nat} {P : Program} {ops : Array Oper} {Q : Exit → Act → World → Prop} {o : Oper} {rest : List Oper} {a : Act} {w : World} (hF : Free F) (hg : o.guard = none) (hd : ∀ c, o.op ≠ .defer c)
    (h : ∀ Q' : Exit → Act → World → Prop, (∀ a' w', wpListIn F n P ops Q rest a' w' → Q' .normal a' w') → wpList P #[o] Q' [o] a w) : wpListIn F n P ops Q (o :: rest) a w := by
  have h1 := h (fun e a' w' => e = .normal ∧ wpListIn F n P ops Q rest a' w') (fun a' w' h1 => ⟨rfl, h1⟩)
  unfold wpList at h1
  rw [if_pos (by simp [Region.wanted, hg])] at h1
  unfold wpListIn
  rw [if_pos (by simp [Region.wanted, hg])]
  rcases h1 with h1 | ⟨_, a, w, h2, _⟩
  · exact wpIn_mono2 (fun a' w' h2 => h2.2) (fun e a' w' hne h2 => (hne h2.1).elim) (lift_wp hF hd h1)
  · cases h2
set_option maxRecDepth 100000 in
set_option maxHeartbeats 2000000 in
theorem tleaf_no (t : Tr) (p : Value) (d : Int) (w : World) (h : At w w.heap.size t p) (hl : t.len ≠ 1) :
    Calls Try.prog 33 #[.agg #[p, .int .i64 d]] w fun e w' => e = .returned (.tuple #[A8 (z8 32), A8 (z8 32), .bool false]) ∧ Below w.heap.size w w' := by
  obtain ⟨ap, rfl⟩ := h.form
  have hne : ((t.len : Int) != 1) = true := by rw [bne_iff_ne]; omega
  go_enter Try.func33, Try.ntmps33
  go_wp2_with fail
  obtain ⟨w0, hw0⟩ : ∃ x, x = ((w.alloc (Obj.cells #[.pointer ap, .int .i64 d] 40)).alloc (Obj.cells (c8 (z8 32)).toArray 25)).alloc (Obj.cells (c8 (z8 32)).toArray 25) := ⟨_, rfl⟩
  rw [← hw0]
  have B0 : Below w.heap.size w w0 := by rw [hw0]; exact (((Below.refl _ _).alloc (Nat.le_refl _) _).alloc (by simp) _).alloc (by simp; omega) _
  have L0 : Bk w0 (w.heap.size + 1) 25 (c8 (z8 32)) := by rw [hw0]; exact (by simpa using Bk.new (w.alloc (Obj.cells #[.pointer ap, .int .i64 d] 40)) 25 (c8 (z8 32)) : Bk _ _ _ _).alloc _
  have R0 : Bk w0 (w.heap.size + 1 + 1) 25 (c8 (z8 32)) := by rw [hw0]; simpa using Bk.new ((w.alloc (Obj.cells #[.pointer ap, .int .i64 d] 40)).alloc (Obj.cells (c8 (z8 32)).toArray 25)) 25 (c8 (z8 32))
  clear hw0
  refine (tlen_any t _ d w0 ((h.below B0).more B0.size)).mono ?_
  rintro e w1 ⟨rfl, h1⟩
  have L1 := L0.below h1 L0.lt
  have R1 := R0.below h1 R0.lt
  have B1 := below_two B0 h1 B0.size
  have hcl : canAt w1 ⟨w.heap.size + 1, 0, none⟩ 32 = true := L1.can (by simp)
  have hcr : canAt w1 ⟨w.heap.size + 1 + 1, 0, none⟩ 32 = true := R1.can (by simp)
  go_wp2_with fail
  have La := (L1.puts (vs := c8 (z8 32)) (by simp)).putFar (p := ⟨w.heap.size + 1 + 1, 0, none⟩) (by simp) (c8 (z8 32))
  have Ra := (R1.putFar (p := ⟨w.heap.size + 1, 0, none⟩) (by simp) (c8 (z8 32))).puts (vs := c8 (z8 32)) (by simp)
  exact bodyPost_ret (results_three rfl (ResAt.row La rfl _ Try.underlying25 rfl (by simp [info_h32])) (ResAt.row Ra rfl _ Try.underlying25 rfl (by simp [info_h32])) (ResAt.tmp rfl)) rfl
    ⟨rfl, below_putAt (below_putAt B1 (by simp) _) (by simp; omega) _⟩
set_option maxRecDepth 100000 in
set_option maxHeartbeats 2000000 in
theorem tleaf_yes (k v : List UInt8) (p : Value) (d : Int) (w : World) (h : At w w.heap.size (.lf k v) p) :
    Calls Try.prog 33 #[.agg #[p, .int .i64 d]] w fun e w' => e = .returned (.tuple #[A8 k, A8 v, .bool true]) ∧ Below w.heap.size w w' := by
  have hat := h
  obtain ⟨g, rfl, hg, hk, hv, hb⟩ := h
  go_enter Try.func33, Try.ntmps33
  go_wp2_with fail
  obtain ⟨w0, hw0⟩ : ∃ x, x = ((w.alloc (Obj.cells #[.pointer (some ⟨g, 0, none⟩), .int .i64 d] 40)).alloc (Obj.cells (c8 (z8 32)).toArray 25)).alloc (Obj.cells (c8 (z8 32)).toArray 25) := ⟨_, rfl⟩
  rw [← hw0]
  have B0 : Below w.heap.size w w0 := by rw [hw0]; exact (((Below.refl _ _).alloc (Nat.le_refl _) _).alloc (by simp) _).alloc (by simp; omega) _
  have T0 : Bk w0 w.heap.size 40 [.pointer (some ⟨g, 0, none⟩), .int .i64 d] := by rw [hw0]; exact ((Bk.new w _ [.pointer (some ⟨g, 0, none⟩), .int .i64 d]).alloc _).alloc _
  have L0 : Bk w0 (w.heap.size + 1) 25 (c8 (z8 32)) := by rw [hw0]; exact (by simpa using Bk.new (w.alloc (Obj.cells #[.pointer (some ⟨g, 0, none⟩), .int .i64 d] 40)) 25 (c8 (z8 32)) : Bk _ _ _ _).alloc _
  have R0 : Bk w0 (w.heap.size + 1 + 1) 25 (c8 (z8 32)) := by rw [hw0]; simpa using Bk.new ((w.alloc (Obj.cells #[.pointer (some ⟨g, 0, none⟩), .int .i64 d] 40)).alloc (Obj.cells (c8 (z8 32)).toArray 25)) 25 (c8 (z8 32))
  clear hw0
  refine (tlen_any (.lf k v) _ d w0 ((hat.below B0).more B0.size)).mono ?_
  rintro e w1 ⟨rfl, h1⟩
  have T1 := T0.below h1 T0.lt
  have L1 := L0.below h1 L0.lt
  have R1 := R0.below h1 R0.lt
  have B1 := below_two B0 h1 B0.size
  have N1 := hb.below B1 hg
  have z1 := R1.lt
  dsimp only [Tr.len]
  clear h1 hat hb T0 L0 R0 B0
  go_wp2_with fail
  refine wp_hoist (A := ?A) (fun W => Below (w.heap.size + 1) w1 W) [0, 1, 2, 3, 4, 5, 6, 7, 8, 9] [10, 11, 12] (by kernel_rfl) (by kernel_rfl) (by kernel_rfl) (by kernel_rfl) rfl rfl (by kernel_rfl) (by kernel_rfl) ?rS (fun W hW => ?rh) (fun hS => ?rt)
  case rS => exact (Below.refl _ _).drew
  case rh =>
    have T2 := T1.below hW (by omega)
    have N2 := N1.below hW (by omega)
    have c0 : W.cell? ⟨w.heap.size, 0, none⟩ = some (.pointer (some ⟨g, 0, none⟩)) := T2.at_ rfl
    have hkk := node_key N2 hk
    have hvv := node_value N2 hk hv
    clear T2 N2
    simp only [pick, List.getElem?_cons_zero, List.getElem?_cons_succ]
    repeat (go_big_quiet_step (fail))
    refine wpQuiet_nil ?_
    rfl
  case rt =>
    simp only [pick, List.getElem?_cons_zero, List.getElem?_cons_succ]
    have S1 : Below (w.heap.size + 1) w1 w1.drew := (Below.refl _ _).drew
    have hcl : canAt w1.drew ⟨w.heap.size + 1, 0, none⟩ 32 = true := L1.can (by simp)
    have hcr : canAt w1.drew ⟨w.heap.size + 1 + 1, 0, none⟩ 32 = true := R1.can (by simp)
    refine wpTail_step (by rfl) (fun Q' hQ' => ?_)
    go_wp2_with fail
    have S2 := below_putAt S1 (a := ⟨w.heap.size + 1, 0, none⟩) (by simp) (c8 k)
    refine hQ' _ _ S2 ?_
    clear hQ'
    refine wpTail_step (by rfl) (fun Q' hQ' => ?_)
    go_wp2_with fail
    have S3 := below_putAt S2 (a := ⟨w.heap.size + 1 + 1, 0, none⟩) (by simp) (c8 v)
    refine hQ' _ _ S3 ?_
    clear hQ'
    refine wpTail_step (by rfl) (fun Q' hQ' => ?_)
    go_wp2_with fail
    refine hQ' _ _ S3 ?_
    clear hQ'
    refine wpTail_nil ?_
    go_wp2_with fail
    have La := (L1.drew.puts (vs := c8 k) (by simp [hk])).putFar (p := ⟨w.heap.size + 1 + 1, 0, none⟩) (by simp) (c8 v)
    have Ra := (R1.drew.putFar (p := ⟨w.heap.size + 1, 0, none⟩) (by simp) (c8 k)).puts (vs := c8 v) (by simp [hv])
    exact bodyPost_ret (results_three rfl (ResAt.row La rfl _ Try.underlying25 rfl (by simp [info_h32, hk])) (ResAt.row Ra rfl _ Try.underlying25 rfl (by simp [info_h32, hv])) (ResAt.tmp rfl)) rfl
      ⟨rfl, below_putAt (below_putAt B1.drew (by simp) _) (by simp; omega) _⟩
def Kd2 (W : World) (row : Option Nat) (T : TypeId) : Prop := ∀ g, row = some g → ∃ cur fz, W.heap[g]? = some (.cells cur T fz)
theorem kd2_own {W : World} {base : Nat} {e : TypeId} {sz n : Nat} {v : Value} {xs : List Value} (h : W.ownsRow base e sz v n xs) : Kd2 W v.ownBlock e := by
  intro g hg
  rcases h.2 with ⟨rfl, _⟩ | ⟨g', cap, cur, rfl, _, hh, _⟩
  · cases hg
  · injection hg with hg; subst hg; exact ⟨_, _, hh⟩
def ListI (w : World) (go : Nat) (pre : List PrS) (W : World) : Prop := ∃ v, Bk W go 34 [v] ∧ OwnP W w.heap.size v (pre.map (·.1)) ∧ Below w.heap.size w W
theorem listI_own (w : World) (go : Nat) {B : Nat} (hB : w.heap.size ≤ B) : OwnFrom B (ListI w go) := by
  intro s X Y row hs hg hr
  obtain ⟨v, h1, h2, h3⟩ := hs
  have hr2 : ∀ r, row = some r → ∃ o : Obj, X.heap[r]? = some o ∧ o.isCells = false := fun r e => (hr r e).2
  refine ⟨v, bk_own h1 hg hr2, h2.kept hg ?_, h3.grown hg h3.size (fun k e => Nat.le_trans hB (hr k e).1)⟩
  cases hv : v.ownBlock with
  | none => exact .inl rfl
  | some k =>
    refine .inr fun e => ?_
    obtain ⟨o, ho, hc⟩ := hr2 k e.symm
    rcases h2.2.2 with ⟨rfl, _⟩ | ⟨g', cap, cur, rfl, _, hh, _⟩
    · cases hv
    · injection hv with hv
      subst hv
      rw [hh] at ho
      injection ho with ho
      subst ho
      cases hc
theorem listI_ext {w : World} {go : Nat} {pre : List PrS} {W W' : World} (h : ListI w go pre W) (hb : Below W.heap.size W W') : ListI w go pre W' := by
  obtain ⟨v, h1, h2, h3⟩ := h
  exact ⟨v, h1.below hb h1.lt, h2.below hb (Nat.le_refl _), below_two h3 hb h3.size⟩
set_option maxRecDepth 100000 in
set_option maxHeartbeats 4000000 in
theorem listed_any (t : Tr) (p : Value) (d : Nat) (P : Nat → Bool) (w : World) (ok : Ok d P t) (hlen : t.len ≤ 1000000) (hat : At w w.heap.size t p) :
    Calls Try.prog 34 #[.agg #[p, .int .i64 (d : Int)]] w fun e w' => ∃ u, e = .returned u ∧ OwnP w' w.heap.size u t.pairs ∧ Below w.heap.size w w' := by
  obtain ⟨ap, rfl⟩ := hat.form
  refine (callsIn_wide (n := 9)).1 ?_
  refine callsIn_of_wp_marks Try.func34 rfl trivial ?_ rfl
  simp only [Try.ntmps34, List.size_toArray, List.length_cons, List.length_nil, Nat.reduceAdd, Nat.reduceSub, Array.replicate_succ, Array.replicate_zero, List.push_toArray, List.append_toArray, List.nil_append, List.cons_append]
  refine wpIn_wide.2 ?_
  go_wp2_with fail
  obtain ⟨w1, hw1⟩ : ∃ x, x = (w.alloc (Obj.cells #[.pointer ap, .int .i64 (d : Int)] 40)).alloc (Obj.cells #[.slice none 0 0] 34) := ⟨_, rfl⟩
  rw [← hw1]
  have B1 : Below w.heap.size w w1 := by rw [hw1]; exact ((Below.refl _ _).alloc (Nat.le_refl _) _).alloc (by simp) _
  have G1 : Bk w1 (w.heap.size + 1) 34 [.slice none 0 0] := by rw [hw1]; simpa using Bk.new (w.alloc (Obj.cells #[.pointer ap, .int .i64 (d : Int)] 40)) 34 [.slice none 0 0]
  clear hw1
  refine (callsIn_wide.1 (tall_any (.pointer ap) (.int .i64 (d : Int)) w1 5)).mono ?_
  rintro e w4 ⟨rfl, hw4⟩
  have T4 : Bk w4 w1.heap.size 40 [.pointer ap, .int .i64 (d : Int)] := by rw [hw4]; exact Bk.new w1 _ [.pointer ap, .int .i64 (d : Int)]
  have hb4 : Below w1.heap.size w1 w4 := by rw [hw4]; exact (Below.refl _ _).alloc (Nat.le_refl _) _
  have G4 := G1.below hb4 G1.lt
  have B4 := below_two B1 hb4 B1.size
  clear hw4 hb4 G1 B1
  go_wp2_with fail
  have hn4 := B4.size
  have hat4 := hat.below B4
  have hNl : t.prs.length = t.len := by rw [Tr.len_pairs, ← prs_pairs ok, List.length_map]
  have hprs := prs_pairs ok
  refine (wpIn_wide (n := 5)).1 ?_
  refine wpIn_rangeFunc_ownH (F := Fence.wide) (n := 5) rfl (by omega) (gf := 62) (lb := #[.pointer (some ⟨w1.heap.size, 0, none⟩)]) rfl trivial (enters_of Try.func62 (by kernel_rfl) rfl)
    (tall_stops (5 - 1) w1.heap.size w.heap.size (.pointer ap) (.int .i64 (d : Int)) t d P ok w4 T4 hn4 hat4) belowK_t (belowK_b hn4) (Below.refl _ _) (fun _ => rfl)
    (ListI w (w.heap.size + 1)) (fun _ _ _ => False) (listI_own _ _ hn4) (fun _ => ownFrom_pure _ _)
    ⟨_, G4, OwnP.nil _ _, B4⟩
    (fun x a' W => ∃ gk gv : Nat, w.heap.size ≤ gk ∧ w.heap.size ≤ gv ∧ Bk W gk 25 (c8 x.1.1) ∧ Bk W gv 25 (c8 x.1.2) ∧ a' = { tmps := (.agg #[.pointer ap, .int .i64 (d : Int)] :: .pointer (some ⟨w.heap.size, 0, none⟩) :: .slice none 0 0 :: .pointer (some ⟨w.heap.size + 1, 0, none⟩) :: .pointer (some ⟨gk, 0, none⟩) :: .pointer (some ⟨gv, 0, none⟩) :: .agg #[.pointer ap, .int .i64 (d : Int)] :: .func (.func 62) #[] #[.pointer (some ⟨w1.heap.size, 0, none⟩)] :: A8 x.1.1 :: A8 x.1.2 :: undef :: undef :: undef :: undef :: undef :: undef :: undef :: []).toArray, defers := [] })
    (fun x a' => by
      intro s X Y row hs hg hr
      obtain ⟨gk, gv, h1, h2, h3, h4, h5⟩ := hs
      have hr2 : ∀ r, row = some r → ∃ o : Obj, X.heap[r]? = some o ∧ o.isCells = false := fun r e => (hr r e).2
      exact ⟨gk, gv, h1, h2, bk_own h3 hg hr2, bk_own h4 hg hr2, h5⟩) ?rassign ?rbody ?rdone ?rstop
  case rassign =>
    rintro lp pre ⟨⟨k, x⟩, hx⟩ W K hI hK
    have hk := hx.1
    have hx2 := hx.2
    simp only at hk hx2
    simp only [encP]
    have hsz : w.heap.size ≤ W.heap.size := by obtain ⟨_, _, _, h⟩ := hI; exact h.size
    have hcan : canAt (W.alloc (Obj.cells (c8 (z8 32)).toArray 25)) ⟨W.heap.size, 0, none⟩ 32 = true := (Bk.new W _ _).can (by simp)
    obtain ⟨W1, hW1⟩ : ∃ y, y = putAt (W.alloc (Obj.cells (c8 (z8 32)).toArray 25)) ⟨W.heap.size, 0, none⟩ (c8 k) := ⟨_, rfl⟩
    have hs1 : W1.heap.size = W.heap.size + 1 := by rw [hW1]; simp
    have hcan2 : canAt (W1.alloc (Obj.cells (c8 (z8 32)).toArray 25)) ⟨W.heap.size + 1, 0, none⟩ 32 = true := by rw [← hs1]; exact (Bk.new W1 _ _).can (by simp)
    rw [hW1] at hcan2
    gi_wp2
    obtain ⟨W2, hW2⟩ : ∃ y, y = putAt ((putAt (W.alloc (Obj.cells (c8 (z8 32)).toArray 25)) ⟨W.heap.size, 0, none⟩ (c8 k)).alloc (Obj.cells (c8 (z8 32)).toArray 25)) ⟨W.heap.size + 1, 0, none⟩ (c8 x) := ⟨_, rfl⟩
    rw [← hW2]
    rw [← hW1] at hW2
    have hb1 : Below W.heap.size W W1 := by rw [hW1]; exact below_putAt ((Below.refl _ _).alloc (Nat.le_refl _) _) (Nat.le_refl _) _
    have hb2 : Below W.heap.size W W2 := by rw [hW2]; exact below_putAt (hb1.alloc (by omega) _) (by simp) _
    have K1 : Bk W1 W.heap.size 25 (c8 k) := by rw [hW1]; exact Bk.fresh W _ (by simp [hk])
    have K2 : Bk W2 W.heap.size 25 (c8 k) := by rw [hW2]; exact (K1.alloc _).putFar (by simp) _
    have V2 : Bk W2 (W.heap.size + 1) 25 (c8 x) := by rw [hW2, ← hs1]; exact Bk.fresh W1 _ (by simp [hx2])
    have hkp : KeepsOthers W W2 := by rw [hW2, hW1]; exact (((KeepsOthers.alloc W _).trans (keeps_putAt _ _ _ _)).trans (KeepsOthers.alloc _ _)).trans (keeps_putAt _ _ _ _)
    exact hK _ _ (hkp.from _) (hb2.mono hsz) (listI_ext hI hb2) ⟨W.heap.size, W.heap.size + 1, hsz, by omega, K2, V2, rfl⟩
  case rbody =>
    rintro lp pre ⟨⟨k, x⟩, hx⟩ a' W hl hlr ⟨vs, G, O, Bw⟩ ⟨gk, gv, hgk, hgv, Kk, Kv, rfl⟩ hlt
    have hk := hx.1
    have hx2 := hx.2
    simp only at hk hx2
    have cg : W.cell? ⟨w.heap.size + 1, 0, none⟩ = some vs := G.at_ rfl
    have rk := Kk.rows
    rw [length_c8, hk] at rk
    have rv := Kv.rows
    rw [length_c8, hx2] at rv
    obtain ⟨pl, hpe⟩ : ∃ pl, pl = pre.map (·.1) := ⟨_, rfl⟩
    have hpl : pl.length ≤ 1099511627776 := by rw [hpe]; simp; omega
    rw [← hpe] at O
    have Hpe := Lib.hid hpe
    clear hpe
    have hsz : w.heap.size ≤ W.heap.size := Bw.size
    have zg := G.lt
    have hqlen : (pb (k, x)).length = 64 := hx.len
    have hkd : Kd2 W vs.ownBlock 36 := kd2_own O.2
    have hgo : vs.ownBlock ≠ some (w.heap.size + 1) := fun e => by
      obtain ⟨c1, f1, h1⟩ := hkd _ e
      unfold Bk at G
      rw [G] at h1
      injection h1 with h1
      injection h1 with _ h1 _
      exact absurd h1 (by decide)
    obtain ⟨A, c, rfl, _, _⟩ := O.form
    gi_wp2_with (gi_at_builtin; refine liftIn (free_round lp) rfl (by intro c h; cases h) (fun Q' hQ' => ?_); refine appP rfl _ _ rfl rfl O (k, x) hx _ rfl rfl rfl hpl hsz ?_; intro A3 c3 w3 hc31 hc32 hO3 hB3 hg3 hat3; refine hQ' _ _ ?_; have G3 := G.grown hg3 (fun e => hgo e.symm); have f3 := G3.frozen 0; have c3' := G3.at_ (i := 0) rfl)
    have hgo3 : ∀ g', (Value.slice A3 (pl.length + 1) c3).ownBlock = some g' → w.heap.size + 1 ≠ g' := fun g' e h => by
      subst h
      obtain ⟨c1, f1, h1⟩ := kd2_own hO3.2 _ e
      unfold Bk at G3
      rw [G3] at h1
      injection h1 with h1
      injection h1 with _ h1 _
      exact absurd h1 (by decide)
    have hst : w3.grownBy (w3.setCell ⟨w.heap.size + 1, 0, none⟩ (.slice A3 (pl.length + 1) c3)) (some (w.heap.size + 1)) := ⟨rfl, rfl, rfl, by simp, fun k' _ hk' => Below.heap_setCell _ ⟨w.heap.size + 1, 0, none⟩ _ k' (fun e => hk' (by rw [e]))⟩
    have hO4 := hO3.kept hst (by
      cases hv : (Value.slice A3 (pl.length + 1) c3).ownBlock with
      | none => exact .inl rfl
      | some g' => exact .inr fun e => hgo3 g' hv (by injection e with e; exact e.symm))
    have hB4 : Below w.heap.size W (w3.setCell ⟨w.heap.size + 1, 0, none⟩ (.slice A3 (pl.length + 1) c3)) := hB3.setCell (p := ⟨w.heap.size + 1, 0, none⟩) (by simp) _
    have hkp3 : KeepsOthers W w3 := KeepsOthers.of_grownBy hg3 (fun j o e ho => by
      obtain ⟨c1, f1, h1⟩ := hkd j e
      rw [h1] at ho
      injection ho with ho
      subst ho
      rfl)
    refine ⟨(hkp3.trans (KeepsOthers.setCell _ _ _)).from _, hB4, ⟨_, G3.set_ 0 _, ?_, Bw.trans hB4⟩⟩
    rw [List.map_append, ← Hpe.out]
    exact hO4
  case rdone =>
    rintro D ys W hD rfl ⟨vs, G, O, Bw⟩ hKD
    have cg : W.cell? ⟨w.heap.size + 1, 0, none⟩ = some vs := G.at_ rfl
    obtain ⟨A, c, rfl, _, _⟩ := O.form
    rw [hprs] at O
    dsimp only
    go_wp2_with fail
    refine ⟨by simp, .inl ⟨_, _, rfl, run_takeDeferred hKD, ?_⟩⟩
    have hgr := grownBy_putObj' W D (.deferred none)
    have hne : (Value.slice A t.pairs.length c).ownBlock = none ∨ (Value.slice A t.pairs.length c).ownBlock ≠ some D := by
      cases hv : (Value.slice A t.pairs.length c).ownBlock with
      | none => exact .inl rfl
      | some g' =>
        refine .inr fun e => ?_
        injection e with e
        subst e
        obtain ⟨c1, f1, h1⟩ := kd2_own O.2 _ hv
        rw [hKD] at h1
        cases h1
    refine ⟨.slice A t.pairs.length c, ?_, ⟨_, rfl, O.kept hgr hne, Bw.trans (belowK_b (w := w4) hn4 W D _ _ hD hKD rfl rfl)⟩⟩
    simp [results, Try.f34]
  case rstop =>
    rintro D cc pre W hD hpre h hKD
    exact h.elim
end Go.Proofs.Ytpalomkcgfalnaa
