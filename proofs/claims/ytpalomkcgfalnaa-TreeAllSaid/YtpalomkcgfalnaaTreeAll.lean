/- witanlaw09.TreeAll answers true. -/
import Derived.Test.YtpalomkcgfalnaaMapT
import Derived.Test.YtpalomkcgfalnaaOwnR
import Derived.Outline
set_option linter.unusedVariables false
set_option linter.unusedSimpArgs false
namespace Go.Proofs.Ytpalomkcgfalnaa
open Go Go.RowKit Sh
theorem at_own {W W' : World} {B : Nat} {row : Option Nat} (hg : W.grownBy W' row) (hr : ∀ r, row = some r → ∃ o : Obj, W.heap[r]? = some o ∧ o.isCells = false) : ∀ {t : Tr} {p : Value}, At W B t p → At W' B t p
  | .e, _, h => h
  | .lf _ _, _, ⟨g', h1, h2, h3, h4, h5⟩ => ⟨g', h1, h2, h3, h4, bk_own h5 hg hr⟩
  | .nd _ _, _, ⟨g', pl, pr, h1, h2, h3, h4, h5⟩ => ⟨g', pl, pr, h1, h2, bk_own h3 hg hr, at_own hg hr h4, at_own hg hr h5⟩
theorem MapT.row {w : World} {b n : Nat} {T : Tr} (h : MapT w b n T) : ∀ r, some b = some r → ∃ o : Obj, w.heap[r]? = some o ∧ o.isCells = false := by
  obtain ⟨D, ⟨es, clock, hb, _⟩, _⟩ := h
  intro r e
  injection e with e
  subst e
  exact ⟨_, hb, rfl⟩
def lastK (l : List Pr) : List UInt8 := match l.getLast? with | some q => q.1 | none => z8 32
def GoodL (T : Tr) (l : List Pr) : Prop := (∀ q ∈ l, T.look q.1 0 = some q.2) ∧ l.Pairwise fun x y => klt x.1 y.1
theorem lastK_snoc (l : List Pr) (x : Pr) : lastK (l ++ [x]) = x.1 := by simp [lastK]
theorem length_lastK {l : List Pr} (h : ∀ q ∈ l, PrOk q) : (lastK l).length = 32 := by
  unfold lastK
  cases hl : l.getLast? with
  | none => simp
  | some q => exact (h q (List.mem_of_getLast? hl)).1
theorem goodL_snoc {T : Tr} {l : List Pr} {x : Pr} : GoodL T (l ++ [x]) ↔ GoodL T l ∧ T.look x.1 0 = some x.2 ∧ (l = [] ∨ kless (lastK l) x.1 = true) := by
  unfold GoodL
  rw [List.pairwise_append]
  constructor
  · rintro ⟨h1, h2, _, h4⟩
    refine ⟨⟨fun q hq => h1 q (by simp [hq]), h2⟩, h1 x (by simp), ?_⟩
    rcases List.eq_nil_or_concat l with rfl | ⟨m, z, rfl⟩
    · exact .inl rfl
    · refine .inr ?_
      rw [List.concat_eq_append, lastK_snoc]
      exact kless_iff.2 (h4 z (by simp) x (by simp))
  · rintro ⟨⟨h1, h2⟩, h3, h4⟩
    refine ⟨fun q hq => ?_, h2, List.pairwise_singleton _ _, fun a ha y hy => ?_⟩
    · rcases List.mem_append.1 hq with hq | hq
      · exact h1 q hq
      · obtain rfl : q = x := by simpa using hq
        exact h3
    · obtain rfl : y = x := by simpa using hy
      rcases h4 with rfl | h4
      · cases ha
      · rcases List.eq_nil_or_concat l with rfl | ⟨m, z, rfl⟩
        · cases ha
        · rw [List.concat_eq_append] at *
          rw [lastK_snoc] at h4
          have hz := kless_iff.1 h4
          rcases List.mem_append.1 ha with ha | ha
          · exact ((List.pairwise_append.1 h2).2.2 a ha z (by simp)).trans hz
          · obtain rfl : a = z := by simpa using ha
            exact hz
theorem goodL_pre {T : Tr} (ok : Okt T) {l : List Pr} (h : l <+: T.pairs) : GoodL T l :=
  ⟨fun q hq => (look_some ok).2 (h.subset hq), ok.sorted.sublist h.sublist⟩
def AllI (w4 : World) (g1 : Nat) (T : Tr) (pre : List PrS) (W : World) : Prop :=
  GoodL T (pre.map (·.1)) ∧ Bk W g1 3 [.int .i64 (pre.length : Int)] ∧ Bk W (g1 + 1) 25 (c8 (lastK (pre.map (·.1)))) ∧ Below g1 w4 W
theorem allI_own (w4 : World) (g1 : Nat) (T : Tr) {B : Nat} (hB : g1 ≤ B) : OwnFrom B (AllI w4 g1 T) := by
  intro s X Y row hs hg hr
  obtain ⟨h1, h2, h3, h4⟩ := hs
  have hr2 : ∀ r, row = some r → ∃ o : Obj, X.heap[r]? = some o ∧ o.isCells = false := fun r e => (hr r e).2
  exact ⟨h1, bk_own h2 hg hr2, bk_own h3 hg hr2, h4.grown hg (by have := h2.lt; omega) (fun k e => Nat.le_trans hB (hr k e).1)⟩
theorem allI_ext {w4 : World} {g1 : Nat} {T : Tr} {pre : List PrS} {W W' : World} (h : AllI w4 g1 T pre W) (hb : Below W.heap.size W W') : AllI w4 g1 T pre W' := by
  obtain ⟨h1, h2, h3, h4⟩ := h
  exact ⟨h1, h2.below hb h2.lt, h3.below hb h3.lt, h4.trans (hb.mono (by have := h2.lt; omega))⟩
def AllJ (W6 : World) (g2 kk : Nat) (pre : List PrS) (W : World) : Prop := pre.length < kk ∧ Bk W g2 3 [.int .i64 (kk : Int)] ∧ Bk W (g2 + 1) 3 [.int .i64 (pre.length : Int)] ∧ Below g2 W6 W
def AllX (W6 : World) (g2 kk : Nat) (c : Code) (pre : List PrS) (W : World) : Prop := c = .exit 4 ∧ pre.length = kk ∧ Bk W g2 3 [.int .i64 (kk : Int)] ∧ Bk W (g2 + 1) 3 [.int .i64 (kk : Int)] ∧ Below g2 W6 W
theorem allJ_own (W6 : World) (g2 kk : Nat) {B : Nat} (hB : g2 ≤ B) : OwnFrom B (AllJ W6 g2 kk) := by
  intro s X Y row hs hg hr
  obtain ⟨h1, h2, h3, h4⟩ := hs
  have hr2 : ∀ r, row = some r → ∃ o : Obj, X.heap[r]? = some o ∧ o.isCells = false := fun r e => (hr r e).2
  exact ⟨h1, bk_own h2 hg hr2, bk_own h3 hg hr2, h4.grown hg (by have := h2.lt; omega) (fun k e => Nat.le_trans hB (hr k e).1)⟩
theorem allX_own (W6 : World) (g2 kk : Nat) {B : Nat} (hB : g2 ≤ B) (c : Code) : OwnFrom B (AllX W6 g2 kk c) := by
  intro s X Y row hs hg hr
  obtain ⟨h0, h1, h2, h3, h4⟩ := hs
  have hr2 : ∀ r, row = some r → ∃ o : Obj, X.heap[r]? = some o ∧ o.isCells = false := fun r e => (hr r e).2
  exact ⟨h0, h1, bk_own h2 hg hr2, bk_own h3 hg hr2, h4.grown hg (by have := h2.lt; omega) (fun k e => Nat.le_trans hB (hr k e).1)⟩
theorem MapT.lens {w : World} {b n : Nat} {T : Tr} (h : MapT w b n T) (ty : TypeId) : (Builtin.len_ #[58] ty #[.map (some b)]).run Try.prog w = .ok (.int .i64 (T.len : Int)) w := by
  obtain ⟨D, hD, hs, _⟩ := h
  rw [← hs]
  exact hD.len Try.underlying58 ty
theorem MapT.below2 {w w' : World} {b n B : Nat} {T : Tr} (h : MapT w b n T) (hb : Below B w w') (hB : b < B) : MapT w' b n T := by
  obtain ⟨D, ⟨es, clock, h1, h2⟩, h3⟩ := h
  exact ⟨D, ⟨es, clock, (hb.block b hB).trans h1, h2⟩, h3⟩
theorem zero32 (w : World) : (zeroValue 25).run Try.prog w = .ok (A8 (z8 32)) w := by kernel_rfl
theorem keeps_below {W W' : World} (h : Below W.heap.size W W') : KeepsOthers W W' := ⟨h.size, fun l o ho _ => (h.block l (Array.getElem?_eq_some_iff.1 ho).1).trans ho⟩
theorem res_look {T : Tr} (ok : Okt T) (k : List UInt8) : ∃ u bl, u.length = 32 ∧ getRes (T.look k 0) = .tuple #[A8 u, .bool bl] ∧ ((bl = true ∧ T.look k 0 = some u) ∨ (bl = false ∧ T.look k 0 = none)) := by
  cases hT : T.look k 0 with
  | none => exact ⟨z8 32, false, by simp, rfl, .inr ⟨rfl, rfl⟩⟩
  | some u => exact ⟨u, true, (ok.keys _ ((look_some ok).1 hT)).2.1, rfl, .inl ⟨rfl, rfl⟩⟩
section
variable {F : Fence} {nF : Nat} {Q : Exit → Act → World → Prop} {ops : Array Oper} {rest : List Oper} {o : Oper} {a : Act} {w : World}
theorem mapT_lookup_in {b n : Nat} {T : Tr} (h : MapT w b n T) {k : List UInt8} (hk : k.length = 32) (hg : o.guard = none) (m x : Operand) (hop : o.op = Op.lookup 58 m x true) (hm : a.eval m = .map (some b)) (hx : a.eval x = A8 k)
    (hK : wpListIn F nF Try.prog ops Q rest (a.put o.dst (getRes (T.look k 0))) w) : wpListIn F nF Try.prog ops Q (o :: rest) a w := by
  obtain ⟨D, hD, _, hl⟩ := h
  refine wpListIn_lookup_own_ok w hg m x _ hop 25 25 h32_keyed Try.underlying58 R32 (zero32 w) (.lit (.string (z8 32))) [] (R32_A8 _) b n D hm hD (A8 k) (klit k) hx (klit_eq hk) ?_
  intro v ps hv
  obtain ⟨h1, h2⟩ := hl k hk
  rw [h2] at hv
  rw [h1]
  cases hT : T.look k 0 with
  | none =>
    rw [hT] at hv hK
    rw [R32_inv hv]
    exact hK
  | some u =>
    rw [hT] at hv hK
    rw [R32_inv hv]
    exact hK
end
set_option maxRecDepth 100000 in
set_option maxHeartbeats 8000000 in
theorem treeAll_any (v : Value) (L : List Pr) (b : Int) (hb : 0 ≤ IntKind.u64.wrap b ∧ IntKind.u64.wrap b < 18446744073709551616) (w : World) (hv : Ps w 0 w.heap.size v L) :
    Calls Try.prog 9 #[v, .int .i64 b] w fun e w' => e = .returned (.bool true) ∧ Below w.heap.size w w' := by
  obtain ⟨A, c, hv1, hc1, hc2⟩ := hv.form
  have hsub := hv.sub
  have hlok := hv.1
  subst hv1
  refine (callsIn_wide (n := 9)).1 ?_
  refine callsIn_of_wp_marks Try.func9 rfl trivial ?_ rfl
  simp only [Try.ntmps9, List.size_toArray, List.length_cons, List.length_nil, Nat.reduceAdd, Nat.reduceSub, Array.replicate_succ, Array.replicate_zero, List.push_toArray, List.append_toArray, List.nil_append, List.cons_append]
  refine wpIn_wide.2 ?_
  go_wp2_with fail
  obtain ⟨wr0, hwr0⟩ : ∃ x, x = w.alloc (Obj.cells #[.bool false] 4) := ⟨_, rfl⟩
  rw [← hwr0]
  have Br0 : Below w.heap.size w wr0 := by rw [hwr0]; exact (Below.refl _ _).alloc (Nat.le_refl _) _
  have R0 : Bk wr0 w.heap.size 4 [.bool false] := by rw [hwr0]; exact Bk.new w _ [.bool false]
  clear hwr0
  refine (first09 wr0).mono ?_
  rintro e w0 ⟨rfl, h0⟩
  have B0 := below_two Br0 h0 Br0.size
  have R1 := R0.below h0 R0.lt
  clear h0 Br0 R0
  have hmm := @run_makeMap Try.prog
  go_wp2_with fail
  have zT0 : w.heap.size ≤ w0.heap.size := B0.size
  obtain ⟨w1, hw1⟩ : ∃ x, x = ((w0.alloc (Obj.cells #[.pointer none, .int .i64 0] 40)).alloc (Obj.map #[] 0)).alloc (Obj.cells #[.map (some (w0.heap.size + 1))] 58) := ⟨_, rfl⟩
  rw [← hw1]
  have KT1 : Bk w1 w0.heap.size 40 [.pointer none, .int .i64 0] := by rw [hw1]; exact ((Bk.new w0 _ [.pointer none, .int .i64 0]).alloc _).alloc _
  have MT1 : MapT w1 (w0.heap.size + 1) 0 .e := by
    rw [hw1]
    have h1 := MapT.made (w0.alloc (Obj.cells #[.pointer none, .int .i64 0] 40))
    have e1 : (w0.alloc (Obj.cells #[.pointer none, .int .i64 0] 40)).heap.size = w0.heap.size + 1 := by simp
    rw [e1] at h1
    exact h1.below ((Below.refl _ _).alloc (Nat.le_refl _) _) (Nat.le_refl _)
  have GP1 : Bk w1 (w0.heap.size + 1 + 1) 58 [.map (some (w0.heap.size + 1))] := by rw [hw1]; simpa using Bk.new ((w0.alloc (Obj.cells #[.pointer none, .int .i64 0] 40)).alloc (Obj.map #[] 0)) 58 [.map (some (w0.heap.size + 1))]
  have hb1 : Below w0.heap.size w0 w1 := by rw [hw1]; exact (((Below.refl _ _).alloc (Nat.le_refl _) _).alloc (by simp) _).alloc (by simp; omega) _
  have R2 := R1.below hb1 R1.lt
  have B1 := below_two B0 hb1 B0.size
  have zR := R1.lt
  clear hw1 hb1 R1 B0
  generalize w0.heap.size = gT at *
  go_loopw [22] (fun t wr => ∃ (i : Nat) (p : Option Addr), i ≤ L.length ∧ t = .int .i64 (i : Int) ∧ At wr wr.heap.size (puts (L.take (min i 40)) .e) (.pointer p) ∧ Bk wr gT 40 [.pointer p, .int .i64 0] ∧ MapT wr (gT + 1) (min i 40) (puts (L.take (min i 40)) .e) ∧ Bk wr (gT + 1 + 1) 58 [.map (some (gT + 1))] ∧ Bk wr w.heap.size 4 [.bool false] ∧ Below w.heap.size w wr) (fun t _ => L.length - (intOf t).toNat)
  case atStart => exact ⟨0, none, by omega, rfl, rfl, KT1, MT1, GP1, R2, B1⟩
  case round =>
    clear KT1 B1 MT1 GP1 R2
    obtain ⟨i, p, hi, rfl, hAt, KT, MT, GP, RR, Bw⟩ := hrel
    have hok : Okt (puts (L.take (min i 40)) .e) := Okt.puts (fun q hq => hlok q (List.mem_of_mem_take hq)) Okt.nil
    have hlen : (puts (L.take (min i 40)) .e).len ≤ 40 := by
      have := len_puts (l := L.take (min i 40)) (fun q hq => hlok q (List.mem_of_mem_take hq)) Okt.nil
      have h2 : (L.take (min i 40)).length ≤ 40 := by simp; omega
      simp only [Tr.len] at this
      omega
    by_cases hlt : i < L.length
    · skip
      -- <L1>
      obtain ⟨q, hp⟩ : ∃ p, L[i]? = some p := ⟨_, List.getElem?_eq_getElem hlt⟩
      have hqok : PrOk q := hlok q (List.mem_of_getElem? hp)
      obtain ⟨g, o, c', hs⟩ := hsub
      rcases hs with ⟨hrow, _, hg, hA, _, _⟩ | hs
      · injection hA with hA _ hA3
        subst hA hA3
        have hr := (hrow i q hp).1
        have hrw : rowAt wr ⟨g, o + i * 64, none⟩ 64 = some (c8 (pb q)) := (rowAt_below Bw hg).trans hr
        have hq1 := hqok.1
        have hq2 := hqok.2
        have hqlen := hqok.len
        obtain ⟨W, hW⟩ : ∃ y, y = putAt (wr.alloc (Obj.cells (c8 (z8 64)).toArray 36)) ⟨wr.heap.size, 0, none⟩ (c8 (pb q)) := ⟨_, rfl⟩
        have hBq : Below wr.heap.size wr W := by rw [hW]; exact below_putAt ((Below.refl _ _).alloc (Nat.le_refl _) _) (Nat.le_refl _) _
        have Q1 : Bk W wr.heap.size 36 (c8 (pb q)) := by rw [hW]; exact Bk.fresh wr _ (by simp [hqlen])
        have KTW := KT.below hBq KT.lt
        have MTW := MT.below hBq (Nat.le_refl _)
        have GPW := GP.below hBq GP.lt
        have RW := RR.below hBq RR.lt
        have hAtW := (hAt.below hBq).more hBq.size
        have BW := below_two Bw hBq Bw.size
        by_cases h40 : i < 40
        · have hge : decide ((i : Int) < 40) = true := decide_eq_true (by omega)
          have e1 : min i 40 = i := by omega
          have e2 : min (i + 1) 40 = i + 1 := by omega
          rw [e1] at hok hlen hAtW MTW
          have htk := take_step hp
          have hst : puts (L.take (min (i + 1) 40)) .e = put1 (puts (L.take i) .e) q.1 q.2 := by rw [e2, htk, puts_app]
          have Hst := Lib.hid hst
          have E2 := Lib.hid e2
          clear hst htk hr hp hrow e1 e2 hAt MT
          generalize puts (L.take i) .e = T at *
          have zT := KTW.lt
          have ztr := KT.lt
          have t0 : W.cell? ⟨gT, 0, none⟩ = some (.pointer p) := KTW.at_ rfl
          have t1 : W.cell? ⟨gT, 1, none⟩ = some (.int .i64 0) := KTW.at_ rfl
          have qk := pair_key Q1 hqok
          have qv := pair_val Q1 hqok
          rw [hW] at t0 t1 qk qv
          go_wp2_with fail
          rw [← hW]
          refine (tput_any q.1 q.2 hq1 hq2 0 T P0 (.pointer p) W (by omega) (fun i hi => by omega) hok (by omega) hAtW).mono ?_
          rintro e w5 ⟨qp, rfl, hat5, h5⟩
          obtain ⟨ap, rfl⟩ := hat5.form
          change At w5 w5.heap.size (put1 T q.1 q.2) _ at hat5
          have KT5 := KTW.below h5 zT
          have MT5 := MTW.below h5 (Nat.le_refl _)
          have GP5 := GPW.below h5 GPW.lt
          have R5 := RW.below h5 RW.lt
          have Q5 := Q1.below h5 Q1.lt
          have B5 := below_two BW h5 BW.size
          have f0 := KT5.frozen 0
          have f1 := KT5.frozen 1
          have z0 := KT5.at_ (i := 0) rfl
          have z1 := KT5.at_ (i := 1) rfl
          obtain ⟨w6, hw6⟩ : ∃ x, x = (w5.setCell ⟨gT, 0, none⟩ (.pointer ap)).setCell ⟨gT, 1, none⟩ (.int .i64 0) := ⟨_, rfl⟩
          have KT6 : Bk w6 gT 40 [.pointer ap, .int .i64 0] := by rw [hw6]; exact (KT5.set_ 0 (.pointer ap)).set_ 1 (.int .i64 0)
          have hat6 : At w6 w6.heap.size (put1 T q.1 q.2) (.pointer ap) := by rw [hw6]; exact ((hat5.set_ KT5 (by decide) 0 _).set_ (KT5.set_ 0 (.pointer ap)) (by decide) 1 _).more (by simp)
          have MT6 : MapT w6 (gT + 1) i T := by rw [hw6]; exact (MT5.setCell (by simp) _).setCell (by simp) _
          have GP6 : Bk w6 (gT + 1 + 1) 58 [.map (some (gT + 1))] := by rw [hw6]; exact (GP5.far (by simp; omega) _).far (by simp; omega) _
          have R6 : Bk w6 w.heap.size 4 [.bool false] := by rw [hw6]; exact (R5.far (by simp; omega) _).far (by simp; omega) _
          have Q6 : Bk w6 wr.heap.size 36 (c8 (pb q)) := by rw [hw6]; exact (Q5.far (by simp; omega) _).far (by simp; omega) _
          have B6 : Below w.heap.size w w6 := by rw [hw6]; exact (B5.setCell (p := ⟨gT, 0, none⟩) zT0 _).setCell (p := ⟨gT, 1, none⟩) zT0 _
          have g0 : w6.cell? ⟨gT + 1 + 1, 0, none⟩ = some (.map (some (gT + 1))) := GP6.at_ rfl
          have qk := pair_key Q6 hqok
          have qv := pair_val Q6 hqok
          obtain ⟨D, hD, hput⟩ := MT6.put hok hq1 hq2 (v := q.2)
          rw [hw6] at g0 qk qv hD
          clear h5 hW KT5 MT5 GP5 R5 Q5 B5 hat5 t0 t1
          go_wp2_with (first | (at_mapUpdate; refine wpList_mapUpdate_own _ rfl _ _ _ 58 rfl 25 25 h32_keyed Try.underlying58 R32 (gT + 1) i D rfl hD (by unfold maxLen; omega) _ _ (klit q.1) rfl rfl (klit_eq hq1) (.lit (.string q.2)) [] (R32_A8 q.2) ?_; intro w7 hown7 hgrow7) | fail)
          rw [← hw6] at hgrow7
          have MT7 := hput w7 hown7
          have hrow := MT6.row
          have KT7 := bk_own KT6 hgrow7 hrow
          have GP7 := bk_own GP6 hgrow7 hrow
          have R7 := bk_own R6 hgrow7 hrow
          have hat7 := (at_own hgrow7 hrow hat6).more hgrow7.size
          have B7 := B6.grown hgrow7 B6.size (fun k hk => by cases hk; omega)
          clear hput hown7 hgrow7 hrow KT6 GP6 R6 hat6 B6 MT6 Q6 hD g0 qk qv hw6
          go_roundw
          case rel => 
            refine ⟨i + 1, ap, by omega, by go_num, by rw [Hst.out]; exact hat7, KT7, by rw [Hst.out, E2.out]; exact MT7, GP7, R7, B7⟩
          case measure => simp [intOf]; omega
        · have hge : decide ((i : Int) < 40) = false := decide_eq_false (by omega)
          have e2 : min (i + 1) 40 = min i 40 := by omega
          have E2 := Lib.hid e2
          clear e2
          go_wp2_with fail
          rw [← hW]
          go_roundw
          case rel => exact ⟨i + 1, p, by omega, by go_num, by rw [E2.out]; exact hAtW, KTW, by rw [E2.out]; exact MTW, GPW, RW, BW⟩
          case measure => simp [intOf]; omega
      · subst hs; simp at hlt
      -- </L1>
    · have hn40 : min i 40 ≤ 40 := by omega
      generalize puts (L.take (min i 40)) .e = T at *
      generalize min i 40 = n0 at *
      clear hlok hsub
      obtain ⟨w2, hw2⟩ : ∃ x, x = (wr.alloc (Obj.cells #[.int .i64 0] 3)).alloc (Obj.cells (c8 (z8 32)).toArray 25) := ⟨_, rfl⟩
      have hb2 : Below wr.heap.size wr w2 := by rw [hw2]; exact ((Below.refl _ _).alloc (Nat.le_refl _) _).alloc (by simp) _
      have N2 : Bk w2 wr.heap.size 3 [.int .i64 0] := by rw [hw2]; exact (Bk.new wr _ [.int .i64 0]).alloc _
      have S2 : Bk w2 (wr.heap.size + 1) 25 (c8 (z8 32)) := by rw [hw2]; simpa using Bk.new (wr.alloc (Obj.cells #[.int .i64 0] 3)) 25 (c8 (z8 32))
      have KT2 := KT.below hb2 KT.lt
      have MT2 := MT.below hb2 (Nat.le_refl _)
      have GP2 := GP.below hb2 GP.lt
      have RR2 := RR.below hb2 RR.lt
      have hat2 := (hAt.below hb2).more hb2.size
      have B2 := below_two Bw hb2 Bw.size
      have t0 : w2.cell? ⟨gT, 0, none⟩ = some (.pointer p) := KT2.at_ rfl
      have t1 : w2.cell? ⟨gT, 1, none⟩ = some (.int .i64 0) := KT2.at_ rfl
      rw [hw2] at t0 t1
      have hAtM := GP.lt
      clear KT MT GP RR Bw
      go_wp2_with fail
      rw [← hw2]
      clear hi hlt t0 t1 hw2
      have hn := MT2.lt
      have hgM := hAtM
      refine (callsIn_wide.1 (tall_any (.pointer p) (.int .i64 0) w2 5)).mono ?_
      rintro e w4 ⟨rfl, hw4⟩
      have T4 : Bk w4 w2.heap.size 40 [.pointer p, .int .i64 0] := by rw [hw4]; exact Bk.new w2 _ [.pointer p, .int .i64 0]
      have hb4 : Below w2.heap.size w2 w4 := by rw [hw4]; exact (Below.refl _ _).alloc (Nat.le_refl _) _
      have N4 := N2.below hb4 N2.lt
      have S4 := S2.below hb4 S2.lt
      have KT4 := KT2.below hb4 KT2.lt
      have MT4 := MT2.below hb4 (Nat.le_refl _)
      have GP4 := GP2.below hb4 GP2.lt
      have R4 := RR2.below hb4 RR2.lt
      have B4 := below_two B2 hb4 B2.size
      have hn4 : wr.heap.size ≤ w4.heap.size := by have := hb2.size; have := hb4.size; omega
      have hat4 : At w4 wr.heap.size T (.pointer p) := (hAt.below hb2).below (hb4.mono hb2.size)
      clear hw4 hb4 N2 S2 KT2 MT2 GP2 RR2 B2 hb2 hAt hgM
      go_wp2_with fail
      generalize wr.heap.size = g1 at *
      have hNl : T.prs.length = T.len := by rw [Tr.len_pairs, ← prs_pairs hok, List.length_map]
      have hprs := prs_pairs hok
      have zN := N4.lt
      have zS := S4.lt
      refine (wpIn_wide (n := 5)).1 ?_
      refine wpIn_rangeFunc_ownH (F := Fence.wide) (n := 5) rfl (by omega) (gf := 62) (lb := #[.pointer (some ⟨w2.heap.size, 0, none⟩)]) rfl trivial (enters_of Try.func62 (by kernel_rfl) rfl)
        (tall_stops (5 - 1) w2.heap.size g1 (.pointer p) (.int .i64 0) T 0 P0 hok w4 T4 hn4 hat4) belowK_t (belowK_b hn4) (Below.refl _ _) (fun _ => rfl)
        (AllI w4 g1 T) (fun _ pre _ => ¬ GoodL T (pre.map (·.1))) (allI_own _ _ _ hn4) (fun _ => ownFrom_pure _ _)
        ⟨⟨by simp, by simp⟩, N4, S4, Below.refl _ _⟩
        (fun x a' W => ∃ gk gv : Nat, g1 + 2 ≤ gk ∧ g1 + 2 ≤ gv ∧ Bk W gk 25 (c8 x.1.1) ∧ Bk W gv 25 (c8 x.1.2) ∧ a' = ⟨(.slice A L.length c :: .int .i64 b :: undef :: undef :: .pointer (some ⟨w.heap.size, 0, none⟩) :: .pointer (some ⟨gT, 0, none⟩) :: .pointer (some ⟨gT + 1 + 1, 0, none⟩) :: u7 :: u8 :: .pointer (some ⟨g1, 0, none⟩) :: .pointer (some ⟨g1 + 1, 0, none⟩) :: .pointer (some ⟨gk, 0, none⟩) :: .pointer (some ⟨gv, 0, none⟩) :: undef :: undef :: undef :: undef :: .bool true :: .bool false :: .map (some (gT + 1)) :: .slice A L.length c :: .int .i64 ↑L.length :: .int .i64 (i : Int) :: .bool false :: u24 :: u25 :: u26 :: u27 :: u28 :: u29 :: u30 :: u31 :: u32 :: u33 :: u34 :: u35 :: u36 :: u37 :: u38 :: u39 :: u40 :: .agg #[.pointer p, .int .i64 0] :: .func (.func 62) #[] #[.pointer (some ⟨w2.heap.size, 0, none⟩)] :: A8 x.1.1 :: A8 x.1.2 :: undef :: undef :: undef :: undef :: undef :: undef :: undef :: undef :: undef :: undef :: undef :: undef :: undef :: undef :: undef :: undef :: undef :: undef :: undef :: undef :: undef :: undef :: undef :: undef :: undef :: undef :: undef :: undef :: undef :: undef :: undef :: undef :: undef :: undef :: undef :: undef :: undef :: undef :: undef :: undef :: undef :: undef :: undef :: undef :: undef :: undef :: undef :: undef :: undef :: undef :: undef :: undef :: undef :: undef :: undef :: undef :: undef :: []).toArray, []⟩)
        (fun x a' => by
          intro s X Y row hs hg hr
          obtain ⟨gk, gv, h1, h2, h3, h4, h5⟩ := hs
          have hr2 : ∀ r, row = some r → ∃ o : Obj, X.heap[r]? = some o ∧ o.isCells = false := fun r e => (hr r e).2
          exact ⟨gk, gv, h1, h2, bk_own h3 hg hr2, bk_own h4 hg hr2, h5⟩) ?rassign ?rbody ?rdone ?rstop
      case rassign =>
        -- <RA>
        rintro lp pre ⟨⟨k, x⟩, hx⟩ W K hI hK
        have hk := hx.1
        have hx2 := hx.2
        simp only at hk hx2
        simp only [encP]
        have hsz : w4.heap.size ≤ W.heap.size := by obtain ⟨_, _, _, h⟩ := hI; exact h.size
        have hcan : canAt (W.alloc (Obj.cells (c8 (z8 32)).toArray 25)) ⟨W.heap.size, 0, none⟩ 32 = true := (Bk.new W _ _).can (by simp)
        obtain ⟨W1, hW1⟩ : ∃ y, y = putAt (W.alloc (Obj.cells (c8 (z8 32)).toArray 25)) ⟨W.heap.size, 0, none⟩ (c8 k) := ⟨_, rfl⟩
        have hs1 : W1.heap.size = W.heap.size + 1 := by rw [hW1]; simp
        have hcan2 : canAt (W1.alloc (Obj.cells (c8 (z8 32)).toArray 25)) ⟨W.heap.size + 1, 0, none⟩ 32 = true := by rw [← hs1]; exact (Bk.new W1 _ _).can (by simp)
        rw [hW1] at hcan2
        gi_wp2
        obtain ⟨W2, hW2⟩ : ∃ y, y = putAt ((putAt (W.alloc (Obj.cells (c8 (z8 32)).toArray 25)) ⟨W.heap.size, 0, none⟩ (c8 k)).alloc (Obj.cells (c8 (z8 32)).toArray 25)) ⟨W.heap.size + 1, 0, none⟩ (c8 x) := ⟨_, rfl⟩
        rw [← hW2]
        rw [← hW1] at hW2
        have hb1 : Below W.heap.size W W1 := by rw [hW1]; exact below_putAt ((Below.refl _ _).alloc (Nat.le_refl _) _) (Nat.le_refl _) _
        have hb2 : Below W.heap.size W W2 := by rw [hW2]; exact below_putAt (hb1.alloc (by omega) _) (by simp) _
        have K1 : Bk W1 W.heap.size 25 (c8 k) := by rw [hW1]; exact Bk.fresh W _ (by simp [hk])
        have K2 : Bk W2 W.heap.size 25 (c8 k) := by rw [hW2]; exact (K1.alloc _).putFar (by simp) _
        have V2 : Bk W2 (W.heap.size + 1) 25 (c8 x) := by rw [hW2, ← hs1]; exact Bk.fresh W1 _ (by simp [hx2])
        have hkp : KeepsOthers W W2 := by rw [hW2, hW1]; exact (((KeepsOthers.alloc W _).trans (keeps_putAt _ _ _ _)).trans (KeepsOthers.alloc _ _)).trans (keeps_putAt _ _ _ _)
        exact hK _ _ (hkp.from _) (hb2.mono (by omega)) (allI_ext hI hb2) ⟨W.heap.size, W.heap.size + 1, by omega, by omega, K2, V2, rfl⟩
        -- </RA>
      case rbody =>
        -- <RB>
        rintro lp pre ⟨⟨k, x⟩, hx⟩ a' W hl hlr ⟨hgood, Ni, Si, Bi⟩ ⟨gk, gv, hgk, hgv, Kk, Kv, rfl⟩ hlt
        have hk := hx.1
        have hx2 := hx.2
        simp only at hk hx2
        have GPW := GP4.below Bi (by omega)
        have MTW := MT4.below2 Bi (by omega)
        have RRW := R4.below Bi (by omega)
        have cg : W.cell? ⟨gT + 1 + 1, 0, none⟩ = some (.map (some (gT + 1))) := GPW.at_ rfl
        have cn : W.cell? ⟨g1, 0, none⟩ = some (.int .i64 (pre.length : Int)) := Ni.at_ rfl
        have cr := RRW.at_ (i := 0) rfl
        have fr := RRW.frozen 0
        have fn := Ni.frozen 0
        have rk := Kk.rows
        rw [length_c8, hk] at rk
        have rv := Kv.rows
        rw [length_c8, hx2] at rv
        have hlw : (lastK (pre.map (·.1))).length = 32 := length_lastK (fun q hq => by obtain ⟨y, _, rfl⟩ := List.mem_map.1 hq; exact y.2)
        have rw_ := Si.rows
        rw [length_c8, hlw] at rw_
        obtain ⟨u, bl, hu, hT, hTc⟩ := res_look hok k
        have zW : g1 + 1 < W.heap.size := Si.lt
        have zkW := Kk.lt
        have zvW := Kv.lt
        obtain ⟨W3, hW3⟩ : ∃ y, y = putAt (W.alloc (Obj.cells (c8 (z8 32)).toArray 25)) ⟨W.heap.size, 0, none⟩ (c8 u) := ⟨_, rfl⟩
        have h3 : Below W.heap.size W W3 := by rw [hW3]; exact below_putAt ((Below.refl _ _).alloc (Nat.le_refl _) _) (Nat.le_refl _) _
        have U3 : Bk W3 W.heap.size 25 (c8 u) := by rw [hW3]; exact Bk.fresh W _ (by simp [hu])
        have N3 := Ni.below h3 Ni.lt
        have S3 := Si.below h3 Si.lt
        have K3 := Kk.below h3 Kk.lt
        have V3 := Kv.below h3 Kv.lt
        have R3 := RRW.below h3 RRW.lt
        have cn3 : W3.cell? ⟨g1, 0, none⟩ = some (.int .i64 (pre.length : Int)) := N3.at_ rfl
        have cr3 := R3.at_ (i := 0) rfl
        have fr3 := R3.frozen 0
        have fn3 := N3.frozen 0
        have rk3 := K3.rows
        rw [length_c8, hk] at rk3
        have rv3 := V3.rows
        rw [length_c8, hx2] at rv3
        have rw3 := S3.rows
        rw [length_c8, hlw] at rw3
        have ru3 := U3.rows
        rw [length_c8, hu] at ru3
        have can3 : canAt W3 ⟨g1 + 1, 0, none⟩ 32 = true := S3.can (by simp [hlw])
        rw [hW3] at cn3 cr3 fr3 fn3 rk3 rv3 rw3 ru3 can3
        clear cn cr fr fn rv rw_
        have Hgood := Lib.hid hgood
        rcases hTc with ⟨rfl, hTl⟩ | ⟨rfl, hTl⟩
        · by_cases hux : u = x
          · subst hux
            have hne : (u != u) = false := by simp
            rcases List.eq_nil_or_concat pre with rfl | hpre
            · gi_wp2_with (first | (gi_at_lookup; refine mapT_lookup_in MTW hk rfl _ _ rfl rfl rfl ?_; rw [hT]) | (refine ⟨trivial, ?_⟩))
              rw [← hW3]
              clear cn3 cr3 fr3 fn3 rk3 rv3 rw3 ru3 can3 hW3
              have hsw := (S3.puts (vs := c8 k) (by simp [hk]; rfl))
              have hb5 : Below g1 W ((putAt W3 ⟨g1 + 1, 0, none⟩ (c8 k)).setCell ⟨g1, 0, none⟩ (.int .i64 ((0 : Int) + 1))) := (below_putAt (h3.mono (by omega)) (by simp) _).setCell (p := ⟨g1, 0, none⟩) (by simp) _
              refine ⟨((keeps_below h3).trans ((keeps_putAt _ _ _ _).trans (KeepsOthers.setCell _ _ _))).from _, hb5, ?_, ?_, ?_, Bi.trans hb5⟩
              · exact (goodL_snoc (l := [])).2 ⟨hgood, hTl, .inl rfl⟩
              · have := (N3.putFar (p := ⟨g1 + 1, 0, none⟩) (by simp) (c8 k)).set_ 0 (.int .i64 ((0 : Int) + 1))
                simpa using this
              · exact hsw.far (by simp) _
            · obtain ⟨m0, z0, hpre⟩ := hpre
              have hpos : 0 < pre.length := by rw [hpre]; simp
              have hnil : pre.map (·.1) ≠ [] := by rw [hpre]; simp
              clear hpre
              obtain ⟨m, hm⟩ : ∃ m, m = pre.length := ⟨_, rfl⟩
              rw [← hm] at cn3 N3 hpos hlt
              have hm0 : decide ((0 : Int) < (m : Int)) = true := decide_eq_true (by omega)
              have hm1 : decide (0 < m) = true := decide_eq_true hpos
              have hmL : m ≤ 1000000 := by omega
              have Hm := Lib.hid hm
              clear hm
              generalize hwas : lastK (pre.map (·.1)) = was at *
              have Hwas := Lib.hid hwas
              clear hwas
              by_cases hkl : kless was k = true
              · gi_wp2_with (first | (gi_at_lookup; refine mapT_lookup_in MTW hk rfl _ _ rfl rfl rfl ?_; rw [hT]) | (gi_at_call 32; refine (callsIn_wide.2 (less_any was k hlw hk _)).mono ?_; rintro e W5 ⟨rfl, h5⟩; rw [← hW3] at h5; have N5 := N3.below h5 N3.lt; have S5 := S3.below h5 S3.lt; have K5 := K3.below h5 K3.lt; have cn5 : W5.cell? ⟨g1, 0, none⟩ = some (.int .i64 (m : Int)) := N5.at_ rfl; have fn5 := N5.frozen 0; have rk5 := K5.rows; rw [length_c8, hk] at rk5; have can5 : canAt W5 ⟨g1 + 1, 0, none⟩ 32 = true := S5.can (by simp [hlw]); rw [hkl]) | (refine ⟨trivial, ?_⟩))
                have h35 := h3.trans (h5.mono h3.size)
                have hsw := (S5.puts (vs := c8 k) (by simp [hk, hlw]))
                have hb5 : Below g1 W ((putAt W5 ⟨g1 + 1, 0, none⟩ (c8 k)).setCell ⟨g1, 0, none⟩ (.int .i64 ((m : Int) + 1))) := (below_putAt (h35.mono (by omega)) (by simp) _).setCell (p := ⟨g1, 0, none⟩) (by simp) _
                refine ⟨((keeps_below h35).trans ((keeps_putAt _ _ _ _).trans (KeepsOthers.setCell _ _ _))).from _, hb5, ?_, ?_, ?_, Bi.trans hb5⟩
                · rw [List.map_append]
                  exact goodL_snoc.2 ⟨hgood, hTl, .inr (by rw [Hwas.out]; exact hkl)⟩
                · have := (N5.putFar (p := ⟨g1 + 1, 0, none⟩) (by simp) (c8 k)).set_ 0 (.int .i64 ((m : Int) + 1))
                  rw [List.length_append, ← Hm.out]
                  simpa using this
                · rw [List.map_append, List.map_singleton, lastK_snoc]
                  exact hsw.far (by simp) _
              · have hkl : kless was k = false := by simpa using hkl
                gi_wp2_with (first | (gi_at_lookup; refine mapT_lookup_in MTW hk rfl _ _ rfl rfl rfl ?_; rw [hT]) | (gi_at_call 32; refine (callsIn_wide.2 (less_any was k hlw hk _)).mono ?_; rintro e W5 ⟨rfl, h5⟩; rw [← hW3] at h5; have N5 := N3.below h5 N3.lt; have S5 := S3.below h5 S3.lt; have K5 := K3.below h5 K3.lt; have cn5 : W5.cell? ⟨g1, 0, none⟩ = some (.int .i64 (m : Int)) := N5.at_ rfl; have fn5 := N5.frozen 0; have rk5 := K5.rows; rw [length_c8, hk] at rk5; have can5 : canAt W5 ⟨g1 + 1, 0, none⟩ 32 = true := S5.can (by simp [hlw]); rw [hkl]; have RF5 := R3.below h5 R3.lt; have cr5 := RF5.at_ (i := 0) rfl; have fr5 := RF5.frozen 0) | (refine ⟨trivial, ?_⟩))
                have h35 := h3.trans (h5.mono h3.size)
                refine ⟨((keeps_below h35).trans (KeepsOthers.setCell _ _ _)).from _, fun hg => ?_⟩
                rw [List.map_append] at hg
                have hg2 := goodL_snoc.1 hg
                rcases hg2.2.2 with h | h
                · exact hnil h
                · rw [Hwas.out] at h
                  rw [hkl] at h; cases h
          · have hne : (u != x) = true := by simp [hux]
            gi_wp2_with (first | (gi_at_lookup; refine mapT_lookup_in MTW hk rfl _ _ rfl rfl rfl ?_; rw [hT]) | (refine ⟨trivial, ?_⟩))
            rw [← hW3]
            refine ⟨((keeps_below h3).trans (KeepsOthers.setCell _ _ _)).from _, fun hg => ?_⟩
            rw [List.map_append] at hg
            have hg2 := goodL_snoc.1 hg
            rw [hTl] at hg2; exact hux (Option.some.inj hg2.2.1)
        · gi_wp2_with (first | (gi_at_lookup; refine mapT_lookup_in MTW hk rfl _ _ rfl rfl rfl ?_; rw [hT]) | (refine ⟨trivial, ?_⟩))
          rw [← hW3]
          refine ⟨((keeps_below h3).trans (KeepsOthers.setCell _ _ _)).from _, fun hg => ?_⟩
          rw [List.map_append] at hg
          have hg2 := goodL_snoc.1 hg
          rw [hTl] at hg2; cases hg2.2.1
        -- </RB>
      case rdone =>
        rintro D ys W hD rfl ⟨hgood, Ni, Si, Bi⟩ hKD
        obtain ⟨a0, ha0⟩ := Int.eq_ofNat_of_zero_le hb.1
        have hq : 1 + (a0 : Int) % 20 = ((1 + a0 % 20 : Nat) : Int) := by omega
        have hq20 : 1 + a0 % 20 ≤ 20 := by omega
        have hq0 : 1 ≤ 1 + a0 % 20 := by omega
        generalize 1 + a0 % 20 = kk at *
        rw [hNl] at Ni
        have zW1 := Ni.lt
        have hgW : g1 ≤ W.heap.size := by omega
        obtain ⟨W5, hW5⟩ : ∃ x, x = (W.alloc (Obj.cells #[.int .i64 (kk : Int)] 3)).alloc (Obj.cells #[.int .i64 0] 3) := ⟨_, rfl⟩
        have hb5 : Below W.heap.size W W5 := by rw [hW5]; exact ((Below.refl _ _).alloc (Nat.le_refl _) _).alloc (by simp) _
        have KK5 : Bk W5 W.heap.size 3 [.int .i64 (kk : Int)] := by rw [hW5]; exact (Bk.new W _ [.int .i64 (kk : Int)]).alloc _
        have MM5 : Bk W5 (W.heap.size + 1) 3 [.int .i64 0] := by rw [hW5]; simpa using Bk.new (W.alloc (Obj.cells #[.int .i64 (kk : Int)] 3)) 3 [.int .i64 0]
        have B45 : Below g1 w4 W5 := Bi.trans (hb5.mono hgW)
        have KT5 := KT4.below B45 (by omega)
        have hat5 : At W5 W.heap.size T (.pointer p) := (hat4.below B45).more hgW
        have N5 := Ni.below hb5 Ni.lt
        have hD5 : W5.heap[D]? = some (.deferred (some [])) := (hb5.block D (Array.getElem?_eq_some_iff.1 hKD).1).trans hKD
        have hDW : D < W.heap.size := (Array.getElem?_eq_some_iff.1 hKD).1
        have t0 : W5.cell? ⟨gT, 0, none⟩ = some (.pointer p) := KT5.at_ rfl
        have t1 : W5.cell? ⟨gT, 1, none⟩ = some (.int .i64 0) := KT5.at_ rfl
        rw [hW5] at t0 t1
        clear Ni hKD
        dsimp only
        go_wp2_with fail
        rw [← hW5]
        clear t0 t1 hW5
        refine (callsIn_wide.1 (tall_any (.pointer p) (.int .i64 0) W5 5)).mono ?_
        rintro e W6 ⟨rfl, hW6⟩
        have T6 : Bk W6 W5.heap.size 40 [.pointer p, .int .i64 0] := by rw [hW6]; exact Bk.new W5 _ [.pointer p, .int .i64 0]
        have hb6 : Below W5.heap.size W5 W6 := by rw [hW6]; exact (Below.refl _ _).alloc (Nat.le_refl _) _
        have KK6 := KK5.below hb6 KK5.lt
        have MM6 := MM5.below hb6 MM5.lt
        have N6 := N5.below hb6 N5.lt
        have hD6 : W6.heap[D]? = some (.deferred (some [])) := (hb6.block D (by have := hb5.size; omega)).trans hD5
        have B46 : Below g1 w4 W6 := B45.trans (hb6.mono (by have := hb5.size; omega))
        have hat6 := hat5.below (hb6.mono hb5.size)
        have hn6 : W.heap.size ≤ W6.heap.size := by have := hb5.size; have := hb6.size; omega
        clear hW6 hb6 KK5 MM5 N5 hD5 B45 hat5 KT5 hb5
        go_wp2_with fail
        generalize W.heap.size = g2 at *
        have zK := KK6.lt
        have zM := MM6.lt
        refine (wpIn_wide (n := 5)).1 ?_
        refine wpIn_rangeFunc_ownH (F := Fence.wide) (n := 5) rfl (by omega) (gf := 62) (lb := #[.pointer (some ⟨W5.heap.size, 0, none⟩)]) rfl trivial (enters_of Try.func62 (by kernel_rfl) rfl)
          (tall_stops (5 - 1) W5.heap.size g2 (.pointer p) (.int .i64 0) T 0 P0 hok W6 T6 hn6 hat6) belowK_t (belowK_b hn6) (Below.refl _ _) (fun _ => rfl)
          (AllJ W6 g2 kk) (AllX W6 g2 kk) (allJ_own _ _ _ hn6) (fun _ => allX_own _ _ _ hn6 _)
          ⟨by simp; omega, KK6, MM6, Below.refl _ _⟩
          (fun x a' W => a' = ⟨(.slice A L.length c :: .int .i64 b :: undef :: undef :: .pointer (some ⟨w.heap.size, 0, none⟩) :: .pointer (some ⟨gT, 0, none⟩) :: .pointer (some ⟨gT + 1 + 1, 0, none⟩) :: u7 :: u8 :: .pointer (some ⟨g1, 0, none⟩) :: .pointer (some ⟨g1 + 1, 0, none⟩) :: undef :: undef :: undef :: undef :: .pointer (some ⟨g2, 0, none⟩) :: .pointer (some ⟨g2 + 1, 0, none⟩) :: .bool true :: .bool false :: .map (some (gT + 1)) :: .slice A L.length c :: .int .i64 ↑L.length :: .int .i64 (i : Int) :: .bool false :: u24 :: u25 :: u26 :: u27 :: u28 :: u29 :: u30 :: u31 :: u32 :: u33 :: u34 :: u35 :: u36 :: u37 :: u38 :: u39 :: u40 :: .agg #[.pointer p, .int .i64 0] :: .func (.func 62) #[] #[.pointer (some ⟨w2.heap.size, 0, none⟩)] :: undef :: undef :: undef :: undef :: undef :: undef :: undef :: undef :: undef :: undef :: undef :: undef :: undef :: undef :: undef :: undef :: undef :: undef :: undef :: undef :: undef :: undef :: undef :: undef :: undef :: undef :: undef :: undef :: .int .i64 b :: .int .u64 (a0 : Int) :: .int .u64 (↑a0 % 20) :: .int .i64 (↑a0 % 20) :: .int .i64 (kk : Int) :: .agg #[.pointer p, .int .i64 0] :: .func (.func 62) #[] #[.pointer (some ⟨W5.heap.size, 0, none⟩)] :: A8 x.1.1 :: A8 x.1.2 :: undef :: undef :: undef :: undef :: undef :: undef :: undef :: undef :: undef :: undef :: undef :: undef :: undef :: undef :: undef :: undef :: undef :: undef :: undef :: undef :: undef :: undef :: []).toArray, []⟩)
          (fun x a' => ownFrom_pure _ _) ?sassign ?sbody ?sdone ?sstop
        case sassign =>
          rintro lp pre ⟨⟨k, x⟩, hx⟩ V K hI hK
          simp only [encP]
          gi_wp2
          exact hK _ _ (KeepsFrom.refl _ _) (Below.refl _ _) hI rfl
        case sbody =>
          rintro lp pre ⟨⟨k, x⟩, hx⟩ a' V hl hlr ⟨hpk, Kv, Mv, Bv⟩ rfl hlt
          have hk := hx.1
          have hx2 := hx.2
          simp only at hk hx2
          have ck : V.cell? ⟨g2, 0, none⟩ = some (.int .i64 (kk : Int)) := Kv.at_ rfl
          have cm : V.cell? ⟨g2 + 1, 0, none⟩ = some (.int .i64 (pre.length : Int)) := Mv.at_ rfl
          have fm := Mv.frozen 0
          obtain ⟨m, hm⟩ : ∃ m, m = pre.length := ⟨_, rfl⟩
          rw [← hm] at cm Mv hpk
          have Hm := Lib.hid hm
          clear hm
          have hm1 : (pre ++ [(⟨(k, x), hx⟩ : PrS)]).length = m + 1 := by rw [List.length_append, ← Hm.out]; rfl
          by_cases hmk : m + 1 = kk
          · have hde : decide (((m : Int) + 1) = (kk : Int)) = true := decide_eq_true (by omega)
            have hde2 : (((m : Int) + 1) == (kk : Int)) = true := by simp; omega
            gi_wp2
            have hb7 : Below g2 V (V.setCell ⟨g2 + 1, 0, none⟩ (.int .i64 ((m : Int) + 1))) := (Below.refl _ _).setCell (p := ⟨g2 + 1, 0, none⟩) (by simp) _
            refine ⟨(KeepsOthers.setCell _ _ _).from _, rfl, by rw [hm1]; exact hmk, Kv.far (by simp) _, ?_, Bv.trans hb7⟩
            have := Mv.set_ 0 (.int .i64 ((m : Int) + 1))
            rw [show ((m : Int) + 1) = (kk : Int) by omega] at this ⊢
            exact this
          · have hde : decide (((m : Int) + 1) = (kk : Int)) = false := decide_eq_false (by omega)
            have hde2 : (((m : Int) + 1) == (kk : Int)) = false := by simp; omega
            gi_wp2
            have hb7 : Below g2 V (V.setCell ⟨g2 + 1, 0, none⟩ (.int .i64 ((m : Int) + 1))) := (Below.refl _ _).setCell (p := ⟨g2 + 1, 0, none⟩) (by simp) _
            refine ⟨(KeepsOthers.setCell _ _ _).from _, hb7, by rw [hm1]; omega, Kv.far (by simp) _, ?_, Bv.trans hb7⟩
            have := Mv.set_ 0 (.int .i64 ((m : Int) + 1))
            rw [hm1]
            simpa using this
        case sdone =>
          -- <SD>
          rintro D2 ys V hD2 rfl ⟨hpk, Kv, Mv, Bv⟩ hKD2
          rw [hNl] at hpk Mv
          dsimp only
          go_wp2_with fail
          have BV : Below g1 w4 V := B46.trans (Bv.mono hgW)
          have GPV := GP4.below BV (by omega)
          have KTV := KT4.below BV (by omega)
          have MTV := MT4.below2 BV (by omega)
          have RV := R4.below BV (by omega)
          have NV := N6.below Bv (by omega)
          have hatV : At V g1 T (.pointer p) := hat4.below BV
          have cN : V.cell? ⟨g1, 0, none⟩ = some (.int .i64 (T.len : Int)) := NV.at_ rfl
          have cG : V.cell? ⟨gT + 1 + 1, 0, none⟩ = some (.map (some (gT + 1))) := GPV.at_ rfl
          have cT0 : V.cell? ⟨gT, 0, none⟩ = some (.pointer p) := KTV.at_ rfl
          have cT1 : V.cell? ⟨gT, 1, none⟩ = some (.int .i64 0) := KTV.at_ rfl
          have cK : V.cell? ⟨g2, 0, none⟩ = some (.int .i64 (kk : Int)) := Kv.at_ rfl
          have cM : V.cell? ⟨g2 + 1, 0, none⟩ = some (.int .i64 (T.len : Int)) := Mv.at_ rfl
          have hlenM : ∀ q (ty : TypeId), (Builtin.len_ #[58] ty #[.map (some (gT + 1))]).run Try.prog (ext V q) = .ok (.int .i64 (T.len : Int)) (ext V q) := fun q ty => (MTV.below (below_ext V q) (Nat.le_refl _)).lens ty
          have z1 := NV.lt
          have z2 := GPV.lt
          have z3 := KTV.lt
          have z4 := Kv.lt
          have z5 := Mv.lt
          have hmin : minI (kk : Int) (T.len : Int) = (T.len : Int) := by unfold minI; rw [if_pos (by omega)]
          have hmo : Try.prog.follows .mixedOrders = true := by kernel_rfl
          refine wp_ext_tail 17 hmo (by kernel_rfl) ?_
          simp only [List.take_succ_cons, List.take_zero, List.drop_succ_cons, List.drop_zero]
          repeat (go_big_quiet_step (first | (go_at_call 25; exact quiet_ext (fun W hW => tlen_any T (.pointer p) 0 W (((hatV.more (by have := NV.lt; omega)).below hW).more hW.size)))))
          refine wpQuiet_nil ?_
          rintro V2 ⟨p2, hV2⟩
          have Be : Below V.heap.size V V2 := by rw [hV2]; exact below_ext V p2
          have RV2 := RV.below Be RV.lt
          have cr := RV2.at_ (i := 0) rfl
          have fr := RV2.frozen 0
          have zR2 := RV2.lt
          clear hV2
          go_wp2_with fail
          have hdV : D2 < V.heap.size := (Array.getElem?_eq_some_iff.1 hKD2).1
          have hdg : D < g2 := hDW
          have e2 : V2.heap[D2]? = some (.deferred (some [])) := (Be.block D2 hdV).trans hKD2
          have e1 : V2.heap[D]? = some (.deferred (some [])) := (Be.block D (by omega)).trans ((Bv.block D hdg).trans hD6)
          have h2' := (KeepsOthers.setCell V2 ⟨w.heap.size, 0, none⟩ (.bool true)).same D2 _ e2 rfl
          have h1' := (KeepsOthers.setCell V2 ⟨w.heap.size, 0, none⟩ (.bool true)).same D _ e1 rfl
          have hdd : D ≠ D2 := by omega
          have hgr := grownBy_putObj' (V2.setCell ⟨w.heap.size, 0, none⟩ (.bool true)) D2 (.deferred none)
          have h1'' := (hgr.block D (Array.getElem?_eq_some_iff.1 h1').1 (fun e => hdd (Option.some.inj e))).trans h1'
          refine ⟨by simp, .inl ⟨_, _, rfl, run_takeDeferred h2', ⟨by simp, .inl ⟨_, _, rfl, run_takeDeferred h1'', ?_⟩⟩⟩⟩
          have hc5 := cell_kept (World.cell?_setCell_same' V2 ⟨w.heap.size, 0, none⟩ (.bool true) (by rw [cr]; rfl)) hgr (fun r e => by cases e; exact ⟨_, h2', rfl⟩)
          have hc6 := cell_kept hc5 (grownBy_putObj' _ D (.deferred none)) (fun r e => by cases e; exact ⟨_, h1'', rfl⟩)
          have hwn : w.heap.size ≤ w4.heap.size := by omega
          have hwn6 : w.heap.size ≤ W6.heap.size := by omega
          refine ⟨.bool true, ?_, rfl, ((((B4.trans (BV.mono (by omega))).trans (Be.mono (by omega))).setCell (p := ⟨w.heap.size, 0, none⟩) (by simp) _).trans (belowK_b (w := W6) hwn6 _ D2 _ _ hD2 h2' rfl rfl)).trans (belowK_b (w := w4) hwn _ D _ _ hD h1'' rfl rfl)⟩
          simp [results, Try.f9, go_sem, hc6]
          -- </SD>
        case sstop =>
          rintro D2 cc pre V hD2 hpre ⟨rfl, hpk, Kv, Mv, Bv⟩ hKD2
          have hpl : pre.length ≤ T.len := by rw [← hNl]; exact hpre.length_le
          refine wpIn_wide.2 ?_
          go_wp2_with fail
          have BV : Below g1 w4 V := B46.trans (Bv.mono hgW)
          have GPV := GP4.below BV (by omega)
          have KTV := KT4.below BV (by omega)
          have MTV := MT4.below2 BV (by omega)
          have RV := R4.below BV (by omega)
          have NV := N6.below Bv (by omega)
          have hatV : At V g1 T (.pointer p) := hat4.below BV
          have cN : V.cell? ⟨g1, 0, none⟩ = some (.int .i64 (T.len : Int)) := NV.at_ rfl
          have cG : V.cell? ⟨gT + 1 + 1, 0, none⟩ = some (.map (some (gT + 1))) := GPV.at_ rfl
          have cT0 : V.cell? ⟨gT, 0, none⟩ = some (.pointer p) := KTV.at_ rfl
          have cT1 : V.cell? ⟨gT, 1, none⟩ = some (.int .i64 0) := KTV.at_ rfl
          have cK : V.cell? ⟨g2, 0, none⟩ = some (.int .i64 (kk : Int)) := Kv.at_ rfl
          have cM : V.cell? ⟨g2 + 1, 0, none⟩ = some (.int .i64 (kk : Int)) := Mv.at_ rfl
          have hlenM : ∀ q (ty : TypeId), (Builtin.len_ #[58] ty #[.map (some (gT + 1))]).run Try.prog (ext V q) = .ok (.int .i64 (T.len : Int)) (ext V q) := fun q ty => (MTV.below (below_ext V q) (Nat.le_refl _)).lens ty
          have z1 := NV.lt
          have z2 := GPV.lt
          have z3 := KTV.lt
          have z4 := Kv.lt
          have z5 := Mv.lt
          have hmin : minI (kk : Int) (T.len : Int) = (kk : Int) := by unfold minI; rw [if_neg (by omega)]
          have hmo : Try.prog.follows .mixedOrders = true := by kernel_rfl
          refine wp_ext_tail 17 hmo (by kernel_rfl) ?_
          simp only [List.take_succ_cons, List.take_zero, List.drop_succ_cons, List.drop_zero]
          repeat (go_big_quiet_step (first | (go_at_call 25; exact quiet_ext (fun W hW => tlen_any T (.pointer p) 0 W (((hatV.more (by have := NV.lt; omega)).below hW).more hW.size)))))
          refine wpQuiet_nil ?_
          rintro V2 ⟨p2, hV2⟩
          have Be : Below V.heap.size V V2 := by rw [hV2]; exact below_ext V p2
          have RV2 := RV.below Be RV.lt
          have cr := RV2.at_ (i := 0) rfl
          have fr := RV2.frozen 0
          have zR2 := RV2.lt
          clear hV2
          go_wp2_with fail
          have hdV : D2 < V.heap.size := (Array.getElem?_eq_some_iff.1 hKD2).1
          have hdg : D < g2 := hDW
          have e2 : V2.heap[D2]? = some (.deferred (some [])) := (Be.block D2 hdV).trans hKD2
          have e1 : V2.heap[D]? = some (.deferred (some [])) := (Be.block D (by omega)).trans ((Bv.block D hdg).trans hD6)
          have h2' := (KeepsOthers.setCell V2 ⟨w.heap.size, 0, none⟩ (.bool true)).same D2 _ e2 rfl
          have h1' := (KeepsOthers.setCell V2 ⟨w.heap.size, 0, none⟩ (.bool true)).same D _ e1 rfl
          have hdd : D ≠ D2 := by omega
          have hgr := grownBy_putObj' (V2.setCell ⟨w.heap.size, 0, none⟩ (.bool true)) D2 (.deferred none)
          have h1'' := (hgr.block D (Array.getElem?_eq_some_iff.1 h1').1 (fun e => hdd (Option.some.inj e))).trans h1'
          refine ⟨by simp, .inl ⟨_, _, rfl, run_takeDeferred h2', ⟨by simp, .inl ⟨_, _, rfl, run_takeDeferred h1'', ?_⟩⟩⟩⟩
          have hc5 := cell_kept (World.cell?_setCell_same' V2 ⟨w.heap.size, 0, none⟩ (.bool true) (by rw [cr]; rfl)) hgr (fun r e => by cases e; exact ⟨_, h2', rfl⟩)
          have hc6 := cell_kept hc5 (grownBy_putObj' _ D (.deferred none)) (fun r e => by cases e; exact ⟨_, h1'', rfl⟩)
          have hwn : w.heap.size ≤ w4.heap.size := by omega
          have hwn6 : w.heap.size ≤ W6.heap.size := by omega
          refine ⟨.bool true, ?_, rfl, ((((B4.trans (BV.mono (by omega))).trans (Be.mono (by omega))).setCell (p := ⟨w.heap.size, 0, none⟩) (by simp) _).trans (belowK_b (w := W6) hwn6 _ D2 _ _ hD2 h2' rfl rfl)).trans (belowK_b (w := w4) hwn _ D _ _ hD h1'' rfl rfl)⟩
          simp [results, Try.f9, go_sem, hc6]
      case rstop =>
        rintro D cc pre W hD hpre hne hKD
        refine absurd (goodL_pre hok ?_) hne
        rw [← hprs]
        exact hpre.map _
end Go.Proofs.Ytpalomkcgfalnaa
