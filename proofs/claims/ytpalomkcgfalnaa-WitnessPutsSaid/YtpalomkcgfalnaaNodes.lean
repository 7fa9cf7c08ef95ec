/- witanlaw09.TreeNodes answers true. -/
import Derived.Test.YtpalomkcgfalnaaNodesA
import Derived.Test.YtpalomkcgfalnaaOwnR
import Derived.Test.YtpalomkcgfalnaaHeldMix
import Derived.Outline
set_option linter.unusedVariables false
set_option linter.unusedSimpArgs false
namespace Go.Proofs.Ytpalomkcgfalnaa
open Go Go.RowKit Sh
def leafK : Tr → List UInt8 | .lf k _ => k | _ => z8 32
def leafV : Tr → List UInt8 | .lf _ v => v | _ => z8 32
def isLeaf : Tr → Bool | .lf _ _ => true | _ => false
def sideL : Tr → Tr | .nd l _ => l | _ => .e
def sideR : Tr → Tr | .nd _ r => r | _ => .e
def isNd : Tr → Bool | .nd _ _ => true | _ => false
def sideD (d : Nat) : Tr → Int | .nd _ _ => (d : Int) + 1 | _ => 0
theorem tleaf_any (s : Tr) (p : Value) (d : Nat) (P : Nat → Bool) (w : World) (ok : Ok d P s) (h : At w w.heap.size s p) :
    Calls Try.prog 33 #[.agg #[p, .int .i64 (d : Int)]] w fun e w' => e = .returned (.tuple #[A8 (leafK s), A8 (leafV s), .bool (isLeaf s)]) ∧ Below w.heap.size w w' := by
  cases s with
  | e => exact tleaf_no .e p d w h (by simp [Tr.len])
  | lf k v => exact tleaf_yes k v p d w h
  | nd l r => exact tleaf_no (.nd l r) p d w h (by have := ok.2.1; simp only [Tr.len]; omega)
theorem tsides_any (s : Tr) (p : Value) (d : Nat) (P : Nat → Bool) (w : World) (ok : Ok d P s) (hd : d ≤ 256) (h : At w w.heap.size s p) :
    Calls Try.prog 26 #[.agg #[p, .int .i64 (d : Int)]] w fun e w' => ∃ pl pr, e = .returned (.tuple #[.agg #[.pointer pl, .int .i64 (sideD d s)], .agg #[.pointer pr, .int .i64 (sideD d s)], .bool (isNd s)]) ∧ At w' w'.heap.size (sideL s) (.pointer pl) ∧ At w' w'.heap.size (sideR s) (.pointer pr) ∧ Below w.heap.size w w' := by
  cases s with
  | e => exact (tsides_no .e p d w h (by simp [Tr.len])).mono fun e w' ⟨h1, h2⟩ => ⟨none, none, h1, rfl, rfl, h2⟩
  | lf k v => exact (tsides_no (.lf k v) p d w h (by simp [Tr.len])).mono fun e w' ⟨h1, h2⟩ => ⟨none, none, h1, rfl, rfl, h2⟩
  | nd l r =>
    refine (tsides_yes l r p d w h ok.2.1 hd).mono fun e w' ⟨pl, pr, h1, h2, h3, h4⟩ => ?_
    obtain ⟨al, rfl⟩ := h2.form
    obtain ⟨ar, rfl⟩ := h3.form
    exact ⟨al, ar, h1, h2, h3, h4⟩
theorem length_leafK {s : Tr} {d : Nat} {P : Nat → Bool} (ok : Ok d P s) : (leafK s).length = 32 := by
  cases s with
  | lf k v => exact ok.1
  | _ => simp [leafK]
theorem length_leafV {s : Tr} {d : Nat} {P : Nat → Bool} (ok : Ok d P s) : (leafV s).length = 32 := by
  cases s with
  | lf k v => exact ok.2.1
  | _ => simp [leafV]
theorem look_split {l r : Tr} {d : Nat} {P : Nat → Bool} (ok : Ok d P (.nd l r)) {q : Pr} (hq : q ∈ (Tr.nd l r).pairs) : (l.look q.1 (d + 1) = some q.2 ∧ r.look q.1 (d + 1) = none) ∨ (l.look q.1 (d + 1) = none ∧ r.look q.1 (d + 1) = some q.2) := by
  have hq2 : q ∈ l.pairs ∨ q ∈ r.pairs := by simpa [Tr.pairs] using hq
  rcases hq2 with h | h
  · refine .inl ⟨(look_some ok.2.2.1).2 h, ?_⟩
    cases hr : r.look q.1 (d + 1) with
    | none => rfl
    | some v =>
      have h1 := ok.right _ ((look_some ok.2.2.2).1 hr)
      have h2 := ok.left _ h
      rw [h1] at h2; cases h2
  · refine .inr ⟨?_, (look_some ok.2.2.2).2 h⟩
    cases hr : l.look q.1 (d + 1) with
    | none => rfl
    | some v =>
      have h1 := ok.left _ ((look_some ok.2.2.1).1 hr)
      have h2 := ok.right _ h
      rw [h1] at h2; cases h2
theorem res_split {l r : Tr} {d : Nat} {P : Nat → Bool} (ok : Ok d P (.nd l r)) {q : Pr} (hq : q ∈ (Tr.nd l r).pairs) : ∃ x y : List UInt8, ∃ b c : Bool, x.length = 32 ∧ y.length = 32 ∧ getRes (l.look q.1 (d + 1)) = .tuple #[A8 x, .bool b] ∧ getRes (r.look q.1 (d + 1)) = .tuple #[A8 y, .bool c] ∧ ((b = true ∧ c = false ∧ x = q.2) ∨ (b = false ∧ c = true ∧ y = q.2)) := by
  have h2 : q.2.length = 32 := (ok.keys q hq).2.1
  rcases look_split ok hq with ⟨h3, h4⟩ | ⟨h3, h4⟩
  · exact ⟨q.2, z8 32, true, false, h2, by simp, by rw [h3]; rfl, by rw [h4]; rfl, .inl ⟨rfl, rfl, rfl⟩⟩
  · exact ⟨z8 32, q.2, false, true, by simp, h2, by rw [h3]; rfl, by rw [h4]; rfl, .inr ⟨rfl, rfl, rfl⟩⟩
theorem getD_clash {m : Array Bool} {i : Nat} (h1 : m.getD i true = false) (h2 : m.getD i false = true) : False := by
  rcases Nat.lt_or_ge i m.size with h | h
  · simp [h] at h1 h2; rw [h1] at h2; cases h2
  · simp [Array.getElem?_eq_none h] at h1
theorem getD_mark {m : Array Bool} {i : Nat} (h : i < m.size) (j : Nat) : (m.setIfInBounds i true).getD j false = (if j = i then true else m.getD j false) := by
  by_cases hj : j = i
  · subst hj; simp [h]
  · rw [if_neg hj]; simp [Array.getElem?_setIfInBounds_ne (Ne.symm hj)]
def CellB (W0 : World) (i j : Bool) (w : World) (s : Value) (r : List UInt8) : Prop := i = true → ∃ g, s = .pointer (some ⟨g, 0, none⟩) ∧ W0.heap.size ≤ g ∧ Bk w g 25 (c8 (if j then r else z8 32))
/-- Two calls that give arrays, two arrays made, the two stores. -/
def InvB (W0 : World) (fr : Value → Value → Value → Value → Act) (rl rr : List UInt8) (b1 b3 b4 b5 b6 b7 : Bool) (ac : Act) (w : World) : Prop :=
  ∃ s1 s2 s3 s4, ac = fr s1 s2 s3 s4 ∧ Below W0.heap.size W0 w ∧ (b1 = true → s3 = A8 rl) ∧ (b3 = true → s4 = A8 rr) ∧ CellB W0 b4 b6 w s1 rl ∧ CellB W0 b5 b7 w s2 rr ∧ (b4 = true → b5 = true → s1 ≠ s2) ∧ (b6 = true → b4 = true) ∧ (b7 = true → b5 = true)
theorem CellB.below {W0 : World} {i j : Bool} {w w' : World} {s : Value} {r : List UInt8} (h : CellB W0 i j w s r) (hb : Below w.heap.size w w') : CellB W0 i j w' s r := by
  intro hi
  obtain ⟨g, e, h1, h2⟩ := h hi
  exact ⟨g, e, h1, h2.below hb h2.lt⟩
theorem InvB.below {W0 : World} {fr : Value → Value → Value → Value → Act} {rl rr : List UInt8} {b1 b3 b4 b5 b6 b7 : Bool} {ac : Act} {w w' : World} (h : InvB W0 fr rl rr b1 b3 b4 b5 b6 b7 ac w) (hb : Below w.heap.size w w') : InvB W0 fr rl rr b1 b3 b4 b5 b6 b7 ac w' := by
  obtain ⟨s1, s2, s3, s4, e, B, F1, F3, F4, F5, F6, F7⟩ := h
  exact ⟨s1, s2, s3, s4, e, below_two B hb B.size, F1, F3, F4.below hb, F5.below hb, F6, F7⟩
theorem InvB.call1 {W0 : World} {fr : Value → Value → Value → Value → Act} {rl rr : List UInt8} {b1 b3 b4 b5 b6 b7 : Bool} {s1 s2 s3 s4 : Value} {w w' : World} (B : Below W0.heap.size W0 w) (F3 : b3 = true → s4 = A8 rr) (F4 : CellB W0 b4 b6 w s1 rl) (F5 : CellB W0 b5 b7 w s2 rr) (F6 : b4 = true → b5 = true → s1 ≠ s2) (F7 : (b6 = true → b4 = true) ∧ (b7 = true → b5 = true)) (hb : Below w.heap.size w w') :
    InvB W0 fr rl rr true b3 b4 b5 b6 b7 (fr s1 s2 (A8 rl) s4) w' := ⟨s1, s2, _, s4, rfl, below_two B hb B.size, fun _ => rfl, F3, F4.below hb, F5.below hb, F6, F7⟩
theorem InvB.call3 {W0 : World} {fr : Value → Value → Value → Value → Act} {rl rr : List UInt8} {b1 b3 b4 b5 b6 b7 : Bool} {s1 s2 s3 s4 : Value} {w w' : World} (B : Below W0.heap.size W0 w) (F1 : b1 = true → s3 = A8 rl) (F4 : CellB W0 b4 b6 w s1 rl) (F5 : CellB W0 b5 b7 w s2 rr) (F6 : b4 = true → b5 = true → s1 ≠ s2) (F7 : (b6 = true → b4 = true) ∧ (b7 = true → b5 = true)) (hb : Below w.heap.size w w') :
    InvB W0 fr rl rr b1 true b4 b5 b6 b7 (fr s1 s2 s3 (A8 rr)) w' := ⟨s1, s2, s3, _, rfl, below_two B hb B.size, F1, fun _ => rfl, F4.below hb, F5.below hb, F6, F7⟩
theorem InvB.alloc4 {W0 : World} {fr : Value → Value → Value → Value → Act} {rl rr : List UInt8} {b1 b3 b5 b6 b7 : Bool} {s1 s2 s3 s4 : Value} {w : World} (B : Below W0.heap.size W0 w) (F1 : b1 = true → s3 = A8 rl) (F3 : b3 = true → s4 = A8 rr) (F5 : CellB W0 b5 b7 w s2 rr) (F7 : (b6 = true → false = true) ∧ (b7 = true → b5 = true)) :
    InvB W0 fr rl rr b1 b3 true b5 b6 b7 (fr (.pointer (some ⟨w.heap.size, 0, none⟩)) s2 s3 s4) (w.alloc (Obj.cells (c8 (z8 32)).toArray 25)) := by
  have hb : Below w.heap.size w (w.alloc (Obj.cells (c8 (z8 32)).toArray 25)) := (Below.refl _ _).alloc (Nat.le_refl _) _
  obtain rfl : b6 = false := by cases b6 with | false => rfl | true => exact (F7.1 rfl).symm
  refine ⟨_, s2, s3, s4, rfl, below_two B hb B.size, F1, F3, fun _ => ⟨_, rfl, B.size, Bk.new w _ _⟩, F5.below hb, ?_, fun _ => rfl, F7.2⟩
  intro _ h5 e
  obtain ⟨g, e2, _, K⟩ := F5 h5
  rw [e2] at e
  injection e with e; injection e with e; injection e with e
  have := K.lt; omega
theorem InvB.alloc5 {W0 : World} {fr : Value → Value → Value → Value → Act} {rl rr : List UInt8} {b1 b3 b4 b6 b7 : Bool} {s1 s2 s3 s4 : Value} {w : World} (B : Below W0.heap.size W0 w) (F1 : b1 = true → s3 = A8 rl) (F3 : b3 = true → s4 = A8 rr) (F4 : CellB W0 b4 b6 w s1 rl) (F7 : (b6 = true → b4 = true) ∧ (b7 = true → false = true)) :
    InvB W0 fr rl rr b1 b3 b4 true b6 b7 (fr s1 (.pointer (some ⟨w.heap.size, 0, none⟩)) s3 s4) (w.alloc (Obj.cells (c8 (z8 32)).toArray 25)) := by
  have hb : Below w.heap.size w (w.alloc (Obj.cells (c8 (z8 32)).toArray 25)) := (Below.refl _ _).alloc (Nat.le_refl _) _
  obtain rfl : b7 = false := by cases b7 with | false => rfl | true => exact (F7.2 rfl).symm
  refine ⟨s1, _, s3, s4, rfl, below_two B hb B.size, F1, F3, F4.below hb, fun _ => ⟨_, rfl, B.size, Bk.new w _ _⟩, ?_, F7.1, fun _ => rfl⟩
  intro h4 _ e
  obtain ⟨g, e2, _, K⟩ := F4 h4
  rw [e2] at e
  injection e with e; injection e with e; injection e with e
  have := K.lt; omega
theorem InvB.store6 {W0 : World} {fr : Value → Value → Value → Value → Act} {rl rr : List UInt8} {b1 b3 b5 b6 b7 : Bool} {g : Nat} {s2 s3 s4 : Value} {w : World} {x : List UInt8} (B : Below W0.heap.size W0 w) (hg : W0.heap.size ≤ g) (K : Bk w g 25 (c8 x)) (hx : x.length = rl.length) (F1 : b1 = true → s3 = A8 rl) (F3 : b3 = true → s4 = A8 rr) (F5 : CellB W0 b5 b7 w s2 rr) (F6 : b5 = true → .pointer (some ⟨g, 0, none⟩) ≠ s2) (F7 : b7 = true → b5 = true) :
    InvB W0 fr rl rr b1 b3 true b5 true b7 (fr (.pointer (some ⟨g, 0, none⟩)) s2 s3 s4) (putAt w ⟨g, 0, none⟩ (c8 rl)) := by
  refine ⟨_, s2, s3, s4, rfl, below_putAt B hg _, F1, F3, fun _ => ⟨_, rfl, hg, K.puts (by simp [hx])⟩, ?_, fun _ h5 => F6 h5, fun _ => rfl, F7⟩
  intro h5
  obtain ⟨g2, e2, h2, K2⟩ := F5 h5
  refine ⟨g2, e2, h2, K2.putFar ?_ _⟩
  intro e
  exact F6 h5 (by rw [e2]; simp at e; simp [e])
theorem InvB.store7 {W0 : World} {fr : Value → Value → Value → Value → Act} {rl rr : List UInt8} {b1 b3 b4 b6 b7 : Bool} {g : Nat} {s1 s3 s4 : Value} {w : World} {x : List UInt8} (B : Below W0.heap.size W0 w) (hg : W0.heap.size ≤ g) (K : Bk w g 25 (c8 x)) (hx : x.length = rr.length) (F1 : b1 = true → s3 = A8 rl) (F3 : b3 = true → s4 = A8 rr) (F4 : CellB W0 b4 b6 w s1 rl) (F6 : b4 = true → s1 ≠ .pointer (some ⟨g, 0, none⟩)) (F7 : b6 = true → b4 = true) :
    InvB W0 fr rl rr b1 b3 b4 true b6 true (fr s1 (.pointer (some ⟨g, 0, none⟩)) s3 s4) (putAt w ⟨g, 0, none⟩ (c8 rr)) := by
  refine ⟨s1, _, s3, s4, rfl, below_putAt B hg _, F1, F3, ?_, fun _ => ⟨_, rfl, hg, K.puts (by simp [hx])⟩, fun h4 _ => F6 h4, F7, fun _ => rfl⟩
  intro h4
  obtain ⟨g2, e2, h2, K2⟩ := F4 h4
  refine ⟨g2, e2, h2, K2.putFar ?_ _⟩
  intro e
  exact F6 h4 (by rw [e2]; simp at e; simp [e])
def InvR (W0 : World) (fr : Value → Value → Value → Value → Act) (rl rr : List UInt8) (listed : Array Bool) (ac : Act) (w : World) : Prop :=
  (∀ j ∈ [0, 2], listed.getD j false = true) ∧ InvB W0 fr rl rr (listed.getD 1 false) (listed.getD 3 false) (listed.getD 4 false) (listed.getD 5 false) (listed.getD 6 false) (listed.getD 7 false) ac w
theorem invR_mark {W0 : World} {fr : Value → Value → Value → Value → Act} {rl rr : List UInt8} {listed : Array Bool} {i : Nat} {ac : Act} {w : World} (hi : i < listed.size) (hq : ∀ j ∈ [0, 2], listed.getD j false = true)
    (h : InvB W0 fr rl rr (if 1 = i then true else listed.getD 1 false) (if 3 = i then true else listed.getD 3 false) (if 4 = i then true else listed.getD 4 false) (if 5 = i then true else listed.getD 5 false) (if 6 = i then true else listed.getD 6 false) (if 7 = i then true else listed.getD 7 false) ac w) : InvR W0 fr rl rr (listed.setIfInBounds i true) ac w := by
  refine ⟨fun j hj => ?_, ?_⟩
  · rw [getD_mark hi]; split
    · rfl
    · exact hq j hj
  · simp only [getD_mark hi]; exact h
set_option maxRecDepth 100000 in
set_option maxHeartbeats 8000000 in
theorem treeNodes_any (v : Value) (L : List Pr) (v2 : Value) (M : List UInt8) (w : World) (hv : Ps w 0 w.heap.size v L) (hM : By w 0 w.heap.size v2 M) :
    Calls Try.prog 10 #[v, v2] w fun e w' => e = .returned (.bool true) ∧ Below w.heap.size w w' := by
  obtain ⟨A, c, hv1, hc1, hc2⟩ := hv.form
  have hsub := hv.sub
  have hlok := hv.1
  subst hv1
  obtain ⟨A2, c2, hv2, hc21, hc22, hMr⟩ := hM.open_
  subst hv2
  go_enter Try.func10, Try.ntmps10
  go_wp2_with fail
  refine (first09 w).mono ?_
  rintro e w0 ⟨rfl, B0⟩
  go_wp2_with fail
  obtain ⟨w1, hw1⟩ : ∃ x, x = w0.alloc (Obj.cells #[.pointer none, .int .i64 0] 40) := ⟨_, rfl⟩
  rw [← hw1]
  have zT0 : w.heap.size ≤ w0.heap.size := B0.size
  have KT1 : Bk w1 w0.heap.size 40 [.pointer none, .int .i64 0] := by rw [hw1]; exact Bk.new w0 _ [.pointer none, .int .i64 0]
  have B1 : Below w.heap.size w w1 := by rw [hw1]; exact B0.alloc B0.size _
  clear hw1 B0
  generalize w0.heap.size = gT at *
  go_loopw [29] (fun t wr => ∃ (i : Nat) (p : Option Addr), i ≤ L.length ∧ t = .int .i64 (i : Int) ∧ At wr wr.heap.size (puts (L.take (min i 30)) .e) (.pointer p) ∧ Bk wr gT 40 [.pointer p, .int .i64 0] ∧ Below w.heap.size w wr) (fun t _ => L.length - (intOf t).toNat)
  case atStart => exact ⟨0, none, by omega, rfl, rfl, KT1, B1⟩
  case round =>
    clear KT1 B1
    obtain ⟨i, p, hi, rfl, hAt, KT, Bw⟩ := hrel
    have hok : Okt (puts (L.take (min i 30)) .e) := Okt.puts (fun q hq => hlok q (List.mem_of_mem_take hq)) Okt.nil
    have hlen : (puts (L.take (min i 30)) .e).len ≤ 30 := by
      have := len_puts (l := L.take (min i 30)) (fun q hq => hlok q (List.mem_of_mem_take hq)) Okt.nil
      have h2 : (L.take (min i 30)).length ≤ 30 := by simp; omega
      simp only [Tr.len] at this
      omega
    by_cases hlt : i < L.length
    · skip
      -- <L1>
      obtain ⟨q, hp⟩ : ∃ p, L[i]? = some p := ⟨_, List.getElem?_eq_getElem hlt⟩
      have hqok : PrOk q := hlok q (List.mem_of_getElem? hp)
      obtain ⟨g, o, c', hs⟩ := hsub
      rcases hs with ⟨hrow, _, hg, hA, _, _⟩ | hs
      · injection hA with hA _ hA3
        subst hA hA3
        have hr := (hrow i q hp).1
        have hrw : rowAt wr ⟨g, o + i * 64, none⟩ 64 = some (c8 (pb q)) := (rowAt_below Bw hg).trans hr
        have hq1 := hqok.1
        have hq2 := hqok.2
        have hqlen := hqok.len
        obtain ⟨W, hW⟩ : ∃ y, y = putAt (wr.alloc (Obj.cells (c8 (z8 64)).toArray 36)) ⟨wr.heap.size, 0, none⟩ (c8 (pb q)) := ⟨_, rfl⟩
        have hBq : Below wr.heap.size wr W := by rw [hW]; exact below_putAt ((Below.refl _ _).alloc (Nat.le_refl _) _) (Nat.le_refl _) _
        have Q1 : Bk W wr.heap.size 36 (c8 (pb q)) := by rw [hW]; exact Bk.fresh wr _ (by simp [hqlen])
        have KTW := KT.below hBq KT.lt
        have hAtW := (hAt.below hBq).more hBq.size
        have BW := below_two Bw hBq Bw.size
        by_cases h30 : i < 30
        · have hge : decide ((i : Int) < 30) = true := decide_eq_true (by omega)
          have e1 : min i 30 = i := by omega
          have e2 : min (i + 1) 30 = i + 1 := by omega
          rw [e1] at hok hlen hAtW
          have htk := take_step hp
          have hst : puts (L.take (min (i + 1) 30)) .e = put1 (puts (L.take i) .e) q.1 q.2 := by rw [e2, htk, puts_app]
          have Hst := Lib.hid hst
          clear hst htk hr hp hrow e1 e2 hAt
          generalize puts (L.take i) .e = T at *
          have zT := KTW.lt
          have t0 : W.cell? ⟨gT, 0, none⟩ = some (.pointer p) := KTW.at_ rfl
          have t1 : W.cell? ⟨gT, 1, none⟩ = some (.int .i64 0) := KTW.at_ rfl
          have qk := pair_key Q1 hqok
          have qv := pair_val Q1 hqok
          rw [hW] at t0 t1 qk qv
          go_wp2_with fail
          rw [← hW]
          refine (tput_any q.1 q.2 hq1 hq2 0 T P0 (.pointer p) W (by omega) (fun i hi => by omega) hok (by omega) hAtW).mono ?_
          rintro e w5 ⟨qp, rfl, hat5, h5⟩
          obtain ⟨ap, rfl⟩ := hat5.form
          change At w5 w5.heap.size (put1 T q.1 q.2) _ at hat5
          rw [← Hst.out] at hat5
          have KT5 := KTW.below h5 zT
          have B5 := below_two BW h5 BW.size
          have f0 := KT5.frozen 0
          have f1 := KT5.frozen 1
          have z0 := KT5.at_ (i := 0) rfl
          have z1 := KT5.at_ (i := 1) rfl
          clear h5 hW t0 t1 qk qv
          go_wp2_with fail
          go_roundw
          case rel =>
            refine ⟨i + 1, ap, by omega, by go_num, ?_, (KT5.set_ 0 (.pointer ap)).set_ 1 (.int .i64 0), (B5.setCell (p := ⟨gT, 0, none⟩) zT0 _).setCell (p := ⟨gT, 1, none⟩) zT0 _⟩
            exact ((hat5.set_ KT5 (by decide) 0 _).set_ (KT5.set_ 0 (.pointer ap)) (by decide) 1 _).more (by simp)
          case measure => simp [intOf]; omega
        · have hge : decide ((i : Int) < 30) = false := decide_eq_false (by omega)
          have e2 : min (i + 1) 30 = min i 30 := by omega
          have E2 := Lib.hid e2
          clear e2
          go_wp2_with fail
          rw [← hW]
          go_roundw
          case rel => exact ⟨i + 1, p, by omega, by go_num, by rw [E2.out]; exact hAtW, KTW, BW⟩
          case measure => simp [intOf]; omega
      · subst hs; simp at hlt
      -- </L1>
    · generalize puts (L.take (min i 30)) .e = T at *
      clear hlok hsub
      go_wp2_with fail
      clear hi hlt
      go_loopw [8] (fun t wr2 => ∃ (d : Nat) (s : Tr) (P : Nat → Bool) (p : Option Addr), d ≤ 256 ∧ t = .int .i64 (d : Int) ∧ Ok d P s ∧ s.len ≤ 30 ∧ At wr2 wr2.heap.size s (.pointer p) ∧ Bk wr2 gT 40 [.pointer p, .int .i64 (d : Int)] ∧ Below w.heap.size w wr2) (fun t _ => 300 - (intOf t).toNat)
      case atStart => exact ⟨0, T, P0, p, by omega, rfl, hok, hlen, hAt, KT, Bw⟩
      case round =>
        clear hAt KT Bw hok hlen
        obtain ⟨d, s, P, p, hd, rfl, ok, hls, hAt, KT, Bw⟩ := hrel
        have zT := KT.lt
        have t0 : wr.cell? ⟨gT, 0, none⟩ = some (.pointer p) := KT.at_ rfl
        have t1 : wr.cell? ⟨gT, 1, none⟩ = some (.int .i64 (d : Int)) := KT.at_ rfl
        have hlk := length_leafK ok
        have hlv := length_leafV ok
        have hlt300 : decide ((d : Int) < 300) = true := decide_eq_true (by omega)
        go_wp2_with fail
        refine (tleaf_any s (.pointer p) d P wr ok hAt).mono ?_
        rintro e w2 ⟨rfl, h2⟩
        have KT2 := KT.below h2 zT
        have hAt2 := (hAt.below h2).more h2.size
        have B2 := below_two Bw h2 Bw.size
        clear h2 t0 t1 KT hAt Bw
        obtain ⟨w3, hw3⟩ : ∃ x, x = putAt (putAt ((w2.alloc (Obj.cells (c8 (z8 32)).toArray 25)).alloc (Obj.cells (c8 (z8 32)).toArray 25)) ⟨w2.heap.size, 0, none⟩ (c8 (leafK s))) ⟨w2.heap.size + 1, 0, none⟩ (c8 (leafV s)) := ⟨_, rfl⟩
        have K3 : Bk w3 w2.heap.size 25 (c8 (leafK s)) := by rw [hw3]; exact (((Bk.new w2 _ _).alloc _).puts (by simp [hlk])).putFar (by simp) _
        have V3 : Bk w3 (w2.heap.size + 1) 25 (c8 (leafV s)) := by
          rw [hw3]
          have := (Bk.new (w2.alloc (Obj.cells (c8 (z8 32)).toArray 25)) 25 (c8 (z8 32))).putFar (p := ⟨w2.heap.size, 0, none⟩) (by simp) (c8 (leafK s))
          exact Bk.puts (by simpa using this) (by simp [hlv])
        have hb3 : Below w2.heap.size w2 w3 := by rw [hw3]; exact below_putAt (below_putAt (((Below.refl _ _).alloc (Nat.le_refl _) _).alloc (by simp) _) (Nat.le_refl _) _) (by simp) _
        have KT3 := KT2.below hb3 KT2.lt
        have hAt3 := (hAt2.below hb3).more hb3.size
        have B3 := below_two B2 hb3 B2.size
        have zT3 := KT3.lt
        have zT2 := KT2.lt
        have t0 : w3.cell? ⟨gT, 0, none⟩ = some (.pointer p) := KT3.at_ rfl
        have t1 : w3.cell? ⟨gT, 1, none⟩ = some (.int .i64 (d : Int)) := KT3.at_ rfl
        rw [hw3] at t0 t1
        clear KT2 hAt2 B2 hb3
        go_wp2_with fail
        rw [← hw3]
        clear t0 t1 hw3
        refine (tsides_any s (.pointer p) d P w3 ok hd hAt3).mono ?_
        rintro e w4 ⟨pl, pr, rfl, hal, har, h4⟩
        have K4 := K3.below h4 K3.lt
        have V4 := V3.below h4 V3.lt
        have KT4 := KT3.below h4 zT3
        have hAt4 := (hAt3.below h4).more h4.size
        have B4 := below_two B3 h4 B3.size
        clear h4 K3 V3 KT3 hAt3 B3 zT3 zT2
        generalize w2.heap.size = g9 at *
        go_wp2_with fail
        obtain ⟨W0, hW0⟩ : ∃ x, x = ((w4.alloc (Obj.cells #[.pointer pl, .int .i64 (sideD d s)] 40)).alloc (Obj.cells #[.pointer pr, .int .i64 (sideD d s)] 40)) := ⟨_, rfl⟩
        rw [← hW0]
        have hb0 : Below w4.heap.size w4 W0 := by rw [hW0]; exact ((Below.refl _ _).alloc (Nat.le_refl _) _).alloc (by simp) _
        have P0' : Bk W0 w4.heap.size 40 [.pointer pl, .int .i64 (sideD d s)] := by rw [hW0]; exact (Bk.new w4 _ [.pointer pl, .int .i64 (sideD d s)]).alloc _
        have R0' : Bk W0 (w4.heap.size + 1) 40 [.pointer pr, .int .i64 (sideD d s)] := by rw [hW0]; simpa using Bk.new (w4.alloc (Obj.cells #[.pointer pl, .int .i64 (sideD d s)] 40)) 40 [.pointer pr, .int .i64 (sideD d s)]
        have K5 := K4.below hb0 K4.lt
        have V5 := V4.below hb0 V4.lt
        have KT5 := KT4.below hb0 KT4.lt
        have hAt5 := (hAt4.below hb0).more hb0.size
        have hal5 := (hal.below hb0).more hb0.size
        have har5 := (har.below hb0).more hb0.size
        have B5 := below_two B4 hb0 B4.size
        clear hW0 K4 V4 KT4 hAt4 B4 hal har hb0
        generalize w4.heap.size = gL at *
        have S0 : Below W0.heap.size W0 W0.drew := (Below.refl _ _).drew
        refine held_begin (fun W => Below W0.heap.size W0 W) (by kernel_rfl) ?_
        refine held_quiet (A := ?A) [0, 2] (by kernel_rfl) (by kernel_rfl) rfl (by kernel_rfl) (by kernel_rfl) S0 (h := fun W hW => ?h15) (hr := ?r15)
        case h15 =>
          have P1 := P0'.below hW P0'.lt
          have R1 := R0'.below hW R0'.lt
          have c0 : W.cell? ⟨gL, 0, none⟩ = some (.pointer pl) := P1.at_ rfl
          have c1 : W.cell? ⟨gL, 1, none⟩ = some (.int .i64 (sideD d s)) := P1.at_ rfl
          have c2 : W.cell? ⟨gL + 1, 0, none⟩ = some (.pointer pr) := R1.at_ rfl
          have c3 : W.cell? ⟨gL + 1, 1, none⟩ = some (.int .i64 (sideD d s)) := R1.at_ rfl
          simp only [pick, List.getElem?_cons_zero, List.getElem?_cons_succ]
          repeat (go_big_quiet_step (fail))
          refine wpQuiet_nil ?_
          rfl
        case r15 =>
          have hl1 := Tr.root_length (sideL s)
          have hl2 := Tr.root_length (sideR s)
          refine held_of_inv (InvR W0 (fun s15 s16 s60 s62 => ⟨(.slice A L.length c :: .slice A2 M.length c2 :: undef :: undef :: u4 :: .pointer (some ⟨gT, 0, none⟩) :: u6 :: u7 :: .int .i64 (d : Int) :: .pointer (some ⟨g9, 0, none⟩) :: .pointer (some ⟨g9 + 1, 0, none⟩) :: .bool (isLeaf s) :: .pointer (some ⟨gL, 0, none⟩) :: .pointer (some ⟨gL + 1, 0, none⟩) :: .bool (isNd s) :: s15 :: s16 :: u17 :: u18 :: undef :: u20 :: u21 :: u22 :: u23 :: u24 :: .bool true :: .bool false :: .slice A L.length c :: .int .i64 ↑L.length :: .int .i64 (i : Int) :: .bool false :: u31 :: u32 :: u33 :: u34 :: u35 :: u36 :: u37 :: u38 :: u39 :: u40 :: u41 :: u42 :: .int .i64 (d : Int) :: .bool true :: u45 :: u46 :: .tuple #[A8 (leafK s), A8 (leafV s), .bool (isLeaf s)] :: .agg #[.pointer p, .int .i64 ↑d] :: .tuple #[A8 (leafK s), A8 (leafV s), .bool (isLeaf s)] :: A8 (leafK s) :: A8 (leafV s) :: .bool (isLeaf s) :: .tuple #[.agg #[.pointer pl, .int .i64 (sideD d s)], .agg #[.pointer pr, .int .i64 (sideD d s)], .bool (isNd s)] :: .agg #[.pointer p, .int .i64 ↑d] :: .tuple #[.agg #[.pointer pl, .int .i64 (sideD d s)], .agg #[.pointer pr, .int .i64 (sideD d s)], .bool (isNd s)] :: .agg #[.pointer pl, .int .i64 (sideD d s)] :: .agg #[.pointer pr, .int .i64 (sideD d s)] :: .bool (isNd s) :: .agg #[.pointer pl, .int .i64 (sideD d s)] :: s60 :: .agg #[.pointer pr, .int .i64 (sideD d s)] :: s62 :: u63 :: u64 :: u65 :: u66 :: u67 :: u68 :: u69 :: u70 :: u71 :: u72 :: u73 :: u74 :: u75 :: u76 :: u77 :: u78 :: u79 :: u80 :: u81 :: u82 :: u83 :: u84 :: u85 :: u86 :: u87 :: u88 :: u89 :: u90 :: u91 :: u92 :: u93 :: u94 :: u95 :: u96 :: u97 :: u98 :: u99 :: u100 :: u101 :: u102 :: u103 :: u104 :: u105 :: u106 :: u107 :: u108 :: u109 :: u110 :: u111 :: u112 :: u113 :: u114 :: u115 :: u116 :: u117 :: u118 :: u119 :: u120 :: u121 :: u122 :: u123 :: u124 :: u125 :: u126 :: u127 :: u128 :: u129 :: u130 :: u131 :: u132 :: u133 :: u134 :: u135 :: u136 :: u137 :: u138 :: u139 :: u140 :: u141 :: u142 :: u143 :: u144 :: u145 :: u146 :: u147 :: u148 :: u149 :: u150 :: u151 :: u152 :: u153 :: u154 :: u155 :: u156 :: u157 :: u158 :: u159 :: u160 :: u161 :: u162 :: u163 :: u164 :: u165 :: u166 :: u167 :: u168 :: u169 :: u170 :: u171 :: u172 :: u173 :: u174 :: u175 :: u176 :: u177 :: u178 :: u179 :: u180 :: u181 :: u182 :: u183 :: u184 :: u185 :: u186 :: u187 :: u188 :: u189 :: u190 :: u191 :: []).toArray, []⟩) (sideL s).root (sideR s).root) (by kernel_rfl) (fun _ _ _ h => by obtain ⟨_, _, _, _, _, _, h, _⟩ := h; exact h) ?step15 ?end15 (by kernel_rfl) ?init15
          case init15 => exact ⟨by decide, _, _, _, _, rfl, S0, fun h => absurd h (by decide), fun h => absurd h (by decide), fun h => absurd h (by decide), fun h => absurd h (by decide), fun h => absurd h (by decide), fun h => absurd h (by decide), fun h => absurd h (by decide)⟩
          case step15 =>
            -- <R15>
            intro listed ac w i o hI hsz hi hun hpre K hK
            obtain ⟨hqs, s15, s16, s60, s62, rfl, B, F1, F3, F4, F5, F6, F7⟩ := hI
            have hil : i < 8 := by simpa using (List.getElem?_eq_some_iff.1 hi).1
            have hsz : listed.size = 8 := by simpa using hsz
            have hiq : i = 1 ∨ i = 3 ∨ i = 4 ∨ i = 5 ∨ i = 6 ∨ i = 7 := by
              apply Classical.byContradiction
              intro hn
              exact getD_clash hun (hqs i (by simp; omega))
            have hun2 : listed.getD i false = false := by
              cases h : listed.getD i false with
              | false => rfl
              | true => exact (getD_clash hun h).elim
            have hpr : ∀ e ∈ o.after, Region.binds .any e = true → listed.getD e.on false = true := hpre
            have halw := (hal5.below B).more B.size
            have harw := (har5.below B).more B.size
            rcases hiq with rfl | rfl | rfl | rfl | rfl | rfl
            · cases hi
              refine inv_op (by rfl) rfl (fun Q' hQ' => ?_)
              go_wp2_with fail
              refine (troot_any (sideL s) (.pointer pl) (sideD d s) w halw).mono ?_
              rintro e w' ⟨rfl, hb⟩
              go_wp2_with fail
              refine invR_mark (by omega) hqs ?_
              exact InvB.call1 (s3 := s60) (b1 := false) B F3 F4 F5 F6 F7 hb
            · cases hi
              refine inv_op (by rfl) rfl (fun Q' hQ' => ?_)
              go_wp2_with fail
              refine (troot_any (sideR s) (.pointer pr) (sideD d s) w harw).mono ?_
              rintro e w' ⟨rfl, hb⟩
              go_wp2_with fail
              refine invR_mark (by omega) hqs ?_
              exact InvB.call3 (s4 := s62) (b3 := false) B F1 F4 F5 F6 F7 hb
            · cases hi
              refine inv_op (by rfl) rfl (fun Q' hQ' => ?_)
              go_wp2_with fail
              refine invR_mark (by omega) hqs ?_
              rw [hun2] at F7
              exact InvB.alloc4 (s1 := s15) B F1 F3 F5 F7
            · cases hi
              refine inv_op (by rfl) rfl (fun Q' hQ' => ?_)
              go_wp2_with fail
              refine invR_mark (by omega) hqs ?_
              rw [hun2] at F7
              exact InvB.alloc5 (s2 := s16) B F1 F3 F4 F7
            · cases hi
              have b1 := hpr ⟨1, .data⟩ (by simp) rfl
              have b4 := hpr ⟨4, .data⟩ (by simp) rfl
              obtain ⟨ga, rfl, hga, Ka⟩ := F4 b4
              obtain rfl := F1 b1
              rw [hun2] at Ka
              simp only [Bool.false_eq_true, if_false] at Ka
              have hca : canAt w ⟨ga, 0, none⟩ 32 = true := Ka.can (by simp)
              refine inv_op (by rfl) rfl (fun Q' hQ' => ?_)
              go_wp2_with fail
              refine invR_mark (by omega) hqs ?_
              rw [b4] at F6 ⊢
              exact InvB.store6 (x := z8 32) (b6 := false) B hga Ka (by simp [hl1]) (fun _ => rfl) F3 F5 (F6 rfl) F7.2
            · cases hi
              have b3 := hpr ⟨3, .data⟩ (by simp) rfl
              have b5 := hpr ⟨5, .data⟩ (by simp) rfl
              obtain ⟨gb, rfl, hgb, Kb⟩ := F5 b5
              obtain rfl := F3 b3
              rw [hun2] at Kb
              simp only [Bool.false_eq_true, if_false] at Kb
              have hcb : canAt w ⟨gb, 0, none⟩ 32 = true := Kb.can (by simp)
              refine inv_op (by rfl) rfl (fun Q' hQ' => ?_)
              go_wp2_with fail
              refine invR_mark (by omega) hqs ?_
              rw [b5] at F6 ⊢
              exact InvB.store7 (x := z8 32) (b7 := false) B hgb Kb (by simp [hl2]) F1 (fun _ => rfl) F4 (fun h => F6 h rfl) F7.1
            -- </R15>
          case end15 =>
            intro listed ac W hI hall
            obtain ⟨hqs, s15, s16, s60, s62, rfl, B, F1, F3, F4, F5, F6, F7⟩ := hI
            obtain ⟨ga, rfl, hga, Ka⟩ := F4 (hall 4 (by simp))
            obtain ⟨gb, rfl, hgb, Kb⟩ := F5 (hall 5 (by simp))
            rw [hall 6 (by simp)] at Ka
            rw [hall 7 (by simp)] at Kb
            obtain rfl := F1 (hall 1 (by simp))
            obtain rfl := F3 (hall 3 (by simp))
            simp only [if_true] at Ka Kb
            have hab : ga ≠ gb := fun e => F6 (hall 4 (by simp)) (hall 5 (by simp)) (by rw [e])
            have K6 := K5.below B K5.lt
            have V6 := V5.below B V5.lt
            have KT6 := KT5.below B KT5.lt
            have hAt6 := (hAt5.below B).more B.size
            have hal6 := (hal5.below B).more B.size
            have har6 := (har5.below B).more B.size
            have PL6 := P0'.below B P0'.lt
            have PR6 := R0'.below B R0'.lt
            have B6 := below_two B5 B B5.size
            have t0 : W.cell? ⟨gT, 0, none⟩ = some (.pointer p) := KT6.at_ rfl
            have t1 : W.cell? ⟨gT, 1, none⟩ = some (.int .i64 (d : Int)) := KT6.at_ rfl
            clear K5 V5 KT5 hAt5 hal5 har5 P0' R0' B5 F1 F3 F4 F5 F6 F7 hqs hall B S0 
            go_wp2_with fail
            refine (tlen_any s _ d W hAt6).mono ?_
            rintro e W1 ⟨rfl, h1⟩
            have KL := K6.below h1 K6.lt
            have VL := V6.below h1 V6.lt
            have KT7 := KT6.below h1 KT6.lt
            have hAt7 := (hAt6.below h1).more h1.size
            have hal7 := (hal6.below h1).more h1.size
            have har7 := (har6.below h1).more h1.size
            have PL7 := PL6.below h1 PL6.lt
            have PR7 := PR6.below h1 PR6.lt
            have Ka7 := Ka.below h1 Ka.lt
            have Kb7 := Kb.below h1 Kb.lt
            have B7 := below_two B6 h1 B6.size
            clear h1 K6 V6 KT6 hAt6 hal6 har6 PL6 PR6 Ka Kb B6 t0 t1
            have t0 : W1.cell? ⟨gT, 0, none⟩ = some (.pointer p) := KT7.at_ rfl
            have t1 : W1.cell? ⟨gT, 1, none⟩ = some (.int .i64 (d : Int)) := KT7.at_ rfl
            cases s with
            | e =>
              -- <CE>
              dsimp only [leafK, leafV, isLeaf, isNd, sideL, sideR, sideD, Tr.len] at *
              go_wp2_with fail
              refine (troot_any .e (.pointer p) d W1 hAt7).mono ?_
              rintro e W2 ⟨rfl, h2⟩
              have B8 := below_two B7 h2 B7.size
              dsimp only [Tr.root]
              go_wp2_with fail
              go_ret
              exact ⟨rfl, B8⟩
              -- </CE>
            | lf k v =>
              -- <CL>
              have rk : rowAt W1 ⟨g9, 0, none⟩ 32 = some (c8 k) := by have := KL.rows; rwa [length_c8, show (leafK (Tr.lf k v)).length = 32 from hlk] at this
              have rv : rowAt W1 ⟨g9 + 1, 0, none⟩ 32 = some (c8 v) := by have := VL.rows; rwa [length_c8, show (leafV (Tr.lf k v)).length = 32 from hlv] at this
              have hlook : (Tr.lf k v).look k d = some v := (look_some ok).2 (by simp [Tr.pairs])
              dsimp only [leafK, leafV, isLeaf, isNd, sideL, sideR, sideD, Tr.len] at *
              go_wp2_with fail
              refine (tget_any k hlk d (.lf k v) P (.pointer p) W1 hd ok hAt7).mono ?_
              rintro e W2 ⟨rfl, h2⟩
              rw [hlook]
              dsimp only [getRes]
              go_wp2_with fail
              obtain ⟨W3, hW3⟩ : ∃ x, x = putAt (W2.alloc (Obj.cells (c8 (z8 32)).toArray 25)) ⟨W2.heap.size, 0, none⟩ (c8 v) := ⟨_, rfl⟩
              rw [← hW3]
              have X3 : Bk W3 W2.heap.size 25 (c8 v) := by rw [hW3]; exact Bk.fresh W2 _ (by simp [hlv])
              have hb3 : Below W2.heap.size W2 W3 := by rw [hW3]; exact below_putAt ((Below.refl _ _).alloc (Nat.le_refl _) _) (Nat.le_refl _) _
              have KL2 := KL.below h2 KL.lt
              have VL2 := VL.below h2 VL.lt
              have KT8 := KT7.below h2 KT7.lt
              have hAt8 := (hAt7.below h2).more h2.size
              have B8 := below_two B7 h2 B7.size
              have KL3 := KL2.below hb3 KL2.lt
              have VL3 := VL2.below hb3 VL2.lt
              have KT9 := KT8.below hb3 KT8.lt
              have hAt9 := (hAt8.below hb3).more hb3.size
              have B9 := below_two B8 hb3 B8.size
              clear hW3 hb3 KL2 VL2 KT8 hAt8 B8 KL VL KT7 hAt7 B7 h2 t0 t1 rk rv hal7 har7 PL7 PR7 Ka7 Kb7
              generalize W2.heap.size = gX at *
              have S0 : Below W3.heap.size W3 W3.drew := (Below.refl _ _).drew
              refine held_begin (fun W => Below W3.heap.size W3 W) (by kernel_rfl) ?_
              refine held_quiet (A := ?A20) [0, 1, 2, 3] (by kernel_rfl) (by kernel_rfl) rfl (by kernel_rfl) (by kernel_rfl) S0 (h := fun W hW => ?h20) (hr := ?r20)
              case h20 =>
                have T1 := KT9.below hW KT9.lt
                have c0 : W.cell? ⟨gT, 0, none⟩ = some (.pointer p) := T1.at_ rfl
                have c1 : W.cell? ⟨gT, 1, none⟩ = some (.int .i64 (d : Int)) := T1.at_ rfl
                simp only [pick, List.getElem?_cons_zero, List.getElem?_cons_succ]
                repeat (go_big_quiet_step (fail))
                refine wpQuiet_nil ?_
                rfl
              case r20 =>
                refine held_one 4 (by kernel_rfl) (by rfl) (by rfl) (fun Q' hQ' => ?_)
                dsimp only [bare]
                go_wp2_with fail
                refine (tlen_any (.lf k v) (.pointer p) d W3.drew hAt9).mono ?_
                rintro e W4 ⟨rfl, h4⟩
                have S4 := below_two S0 h4 S0.size
                dsimp only [Tr.len]
                go_wp2_with fail
                refine hQ' _ _ S4 ?_
                clear hQ' h4
                refine held_quiet (A := ?A20b) [5, 6, 7, 8, 9, 10, 11, 12, 13, 14, 15, 16, 19, 20] (by kernel_rfl) (by kernel_rfl) rfl (by kernel_rfl) (by kernel_rfl) S4 (h := fun W hW => ?h20b) (hr := ?r20b)
                case h20b =>
                  have T1 := KT9.below hW KT9.lt
                  have c0 : W.cell? ⟨gT, 0, none⟩ = some (.pointer p) := T1.at_ rfl
                  have c1 : W.cell? ⟨gT, 1, none⟩ = some (.int .i64 (d : Int)) := T1.at_ rfl
                  have r1 := (X3.below hW X3.lt).rows
                  have r2 := (VL3.below hW VL3.lt).rows
                  have r3 := (KL3.below hW KL3.lt).rows
                  rw [length_c8, hlv] at r1 r2
                  rw [length_c8, hlk] at r3
                  simp only [List.append_eq, List.nil_append, List.cons_append, pick, List.getElem?_cons_zero, List.getElem?_cons_succ]
                  repeat (go_big_quiet_step (fail))
                  refine wpQuiet_nil ?_
                  rfl
                case r20b =>
                  refine held_mix 17 18 21 (fun x104x y105y z108z => ⟨(.slice A L.length c :: .slice A2 M.length c2 :: undef :: undef :: u4 :: .pointer (some ⟨gT, 0, none⟩) :: u6 :: u7 :: .int .i64 (d : Int) :: .pointer (some ⟨g9, 0, none⟩) :: .pointer (some ⟨g9 + 1, 0, none⟩) :: .bool true :: .pointer (some ⟨gL, 0, none⟩) :: .pointer (some ⟨gL + 1, 0, none⟩) :: .bool false :: .pointer (some ⟨ga, 0, none⟩) :: .pointer (some ⟨gb, 0, none⟩) :: .pointer (some ⟨gX, 0, none⟩) :: .bool true :: undef :: u20 :: u21 :: u22 :: u23 :: u24 :: .bool true :: .bool false :: .slice A L.length c :: .int .i64 ↑L.length :: .int .i64 (i : Int) :: .bool false :: u31 :: u32 :: u33 :: u34 :: u35 :: u36 :: u37 :: u38 :: u39 :: u40 :: u41 :: u42 :: .int .i64 (d : Int) :: .bool true :: u45 :: u46 :: .tuple #[A8 k, A8 v, .bool true] :: .agg #[.pointer p, .int .i64 ↑d] :: .tuple #[A8 k, A8 v, .bool true] :: A8 k :: A8 v :: .bool true :: .tuple #[.agg #[.pointer pl, .int .i64 0], .agg #[.pointer pr, .int .i64 0], .bool false] :: .agg #[.pointer p, .int .i64 ↑d] :: .tuple #[.agg #[.pointer pl, .int .i64 0], .agg #[.pointer pr, .int .i64 0], .bool false] :: .agg #[.pointer pl, .int .i64 0] :: .agg #[.pointer pr, .int .i64 0] :: .bool false :: .agg #[.pointer pl, .int .i64 0] :: A8 (Tr.root .e) :: .agg #[.pointer pr, .int .i64 0] :: A8 (Tr.root .e) :: .bool false :: .agg #[.pointer p, .int .i64 ↑d] :: .int .i64 (1 : Int) :: .bool false :: u67 :: u68 :: u69 :: u70 :: u71 :: u72 :: u73 :: u74 :: u75 :: u76 :: u77 :: u78 :: .bool true :: .bool true :: .tuple #[A8 v, .bool true] :: .agg #[.pointer p, .int .i64 ↑d] :: A8 k :: .tuple #[A8 v, .bool true] :: A8 v :: .bool true :: .bool false :: .bool true :: .bool true :: .agg #[.pointer p, .int .i64 ↑d] :: .int .i64 (1 : Int) :: .bool true :: .bool true :: .bool true :: A8 v :: A8 v :: .bool true :: .bool true :: .bool true :: .bool true :: .bool true :: .bool true :: .agg #[.pointer p, .int .i64 ↑d] :: x104x :: y105y :: .slice (some ⟨g9, 0, none⟩) 32 32 :: .slice (some ⟨g9 + 1, 0, none⟩) 32 32 :: z108z :: u109 :: u110 :: u111 :: u112 :: u113 :: u114 :: u115 :: u116 :: u117 :: u118 :: u119 :: u120 :: u121 :: u122 :: u123 :: u124 :: u125 :: u126 :: u127 :: u128 :: u129 :: u130 :: u131 :: u132 :: u133 :: u134 :: u135 :: u136 :: u137 :: u138 :: u139 :: u140 :: u141 :: u142 :: u143 :: u144 :: u145 :: u146 :: u147 :: u148 :: u149 :: u150 :: u151 :: u152 :: u153 :: u154 :: u155 :: u156 :: u157 :: u158 :: u159 :: u160 :: u161 :: u162 :: u163 :: u164 :: u165 :: u166 :: u167 :: u168 :: u169 :: u170 :: u171 :: u172 :: u173 :: u174 :: u175 :: u176 :: u177 :: u178 :: u179 :: u180 :: u181 :: u182 :: u183 :: u184 :: u185 :: u186 :: u187 :: u188 :: u189 :: u190 :: u191 :: []).toArray, []⟩) (fun y W => ∃ gy : Nat, y = .slice (some ⟨gy, 0, none⟩) 1 1 ∧ By W 0 W.heap.size y [0]) (fun z W => Parts W W.heap.size z [[0], k, v]) (by kernel_rfl) (by kernel_rfl) (by kernel_rfl) (by kernel_rfl) (by kernel_rfl) (by kernel_rfl) (by kernel_rfl) (by kernel_rfl) (by kernel_rfl) (by rfl) (by rfl) (by rfl) (fun _ _ _ => rfl) (fun _ _ _ => rfl) (fun _ _ _ => rfl)
                    (fun y W W' h hb => by obtain ⟨gy, e, h⟩ := h; exact ⟨gy, e, (h.below hb).more hb.size⟩) (fun z W W' h hb => (h.below hb).more hb.size) S4 (ri := A8 (Tr.lf k v).root) ?mi ?mj ?mm ?mr
                  case mi =>
                    intro y z W hW Q' hQ'
                    dsimp only [bare]
                    go_wp2_with fail
                    refine (troot_any (.lf k v) (.pointer p) d W ((hAt9.below hW).more hW.size)).mono ?_
                    rintro e W5 ⟨rfl, h5⟩
                    go_wp2_with fail
                    exact hQ' _ (below_two hW h5 hW.size) h5
                  case mj =>
                    intro x W hW Q' hQ'
                    dsimp only [bare]
                    go_wp2_with fail
                    refine hQ' _ _ (below_two hW ((Below.refl _ _).alloc (Nat.le_refl _) _) hW.size) ?_
                    exact ⟨_, rfl, (By.build W 5 (0, 0) [0] (by simp)).more (by simp)⟩
                  case mm =>
                    rintro x y W hW ⟨gy, rfl, hy⟩ Q' hQ'
                    have hkk : By W 0 W.heap.size (.slice (some ⟨g9, 0, none⟩) 32 32) k := (KL3.below hW KL3.lt).whole 32 hlk (by have := KL3.lt; have := hW.size; omega)
                    have hvv : By W 0 W.heap.size (.slice (some ⟨g9 + 1, 0, none⟩) 32 32) v := (VL3.below hW VL3.lt).whole 32 hlv (by have := VL3.lt; have := hW.size; omega)
                    dsimp only [bare]
                    go_wp2_with fail
                    refine hQ' _ _ (below_two hW ((Below.refl _ _).alloc (Nat.le_refl _) _) hW.size) ?_
                    have := Parts.three W 22 _ _ _ _ _ _ hy hkk hvv
                    simpa using this
                  case mr =>
                    intro y z W hW hz
                    refine held_one 22 (by kernel_rfl) (by rfl) (by rfl) (fun Q' hQ' => ?_)
                    dsimp only [bare]
                    go_wp2_with fail
                    refine (sum256_any _ [[0], k, v] W hz (by simp [hlk, hlv])).mono ?_
                    rintro e W6 ⟨rfl, h6⟩
                    have hroot : sum32 [[0], k, v].flatten = (Tr.lf k v).root := by simp [Tr.root]
                    rw [hroot]
                    have S6 := below_two hW h6 hW.size
                    go_wp2_with fail
                    refine hQ' _ _ S6 ?_
                    clear hQ'
                    refine held_quiet (A := ?A20c) [23, 24] (by kernel_rfl) (by kernel_rfl) rfl (by kernel_rfl) (by kernel_rfl) S6 (h := fun W hW => ?h20c) (hr := ?r20c)
                    case h20c =>
                      have hrl := Tr.root_length (Tr.lf k v)
                      simp only [List.append_eq, List.nil_append, List.cons_append, pick, List.getElem?_cons_zero, List.getElem?_cons_succ]
                      repeat (go_big_quiet_step (fail))
                      refine wpQuiet_nil ?_
                      rfl
                    case r20c =>
                      refine held_one 25 (by kernel_rfl) (by rfl) (by rfl) (fun Q' hQ' => ?_)
                      dsimp only [bare]
                      go_wp2_with fail
                      refine hQ' _ _ S6 ?_
                      clear hQ'
                      refine held_end (by kernel_rfl) ?_
                      go_wp2_with fail
                      go_ret
                      exact ⟨rfl, below_two B9 S6 B9.size⟩
              -- </CL>
            | nd l r =>
              have hnz : ((l.len : Int) + (r.len : Int) == 0) = false := by
                have := ok.2.1
                exact beq_false_of_ne (by omega)
              dsimp only [leafK, leafV, isLeaf, isNd, sideL, sideR, sideD, Tr.len] at *
              go_wp2_with fail
              clear KL VL hlk hlv t0 t1
              have S0 : Below W1.heap.size W1 W1.drew := (Below.refl _ _).drew
              refine held_begin (fun W => Below W1.heap.size W1 W) (by kernel_rfl) ?_
              refine held_quiet (A := ?A21) [0, 1, 2, 3, 6, 7] (by kernel_rfl) (by kernel_rfl) rfl (by kernel_rfl) (by kernel_rfl) S0 (h := fun W hW => ?h21) (hr := ?r21)
              case h21 =>
                have T1 := KT7.below hW KT7.lt
                have c0 : W.cell? ⟨gT, 0, none⟩ = some (.pointer p) := T1.at_ rfl
                have c1 : W.cell? ⟨gT, 1, none⟩ = some (.int .i64 (d : Int)) := T1.at_ rfl
                simp only [pick, List.getElem?_cons_zero, List.getElem?_cons_succ]
                repeat (go_big_quiet_step (fail))
                refine wpQuiet_nil ?_
                rfl
              case r21 =>
                have hl0 : l.len ≤ 30 := by omega
                have hr0 : r.len ≤ 30 := by omega
                refine held_mix 4 5 8 (fun x117x y118y z121z => ⟨(.slice A L.length c :: .slice A2 M.length c2 :: undef :: undef :: u4 :: .pointer (some ⟨gT, 0, none⟩) :: u6 :: u7 :: .int .i64 (d : Int) :: .pointer (some ⟨g9, 0, none⟩) :: .pointer (some ⟨g9 + 1, 0, none⟩) :: .bool false :: .pointer (some ⟨gL, 0, none⟩) :: .pointer (some ⟨gL + 1, 0, none⟩) :: .bool true :: .pointer (some ⟨ga, 0, none⟩) :: .pointer (some ⟨gb, 0, none⟩) :: u17 :: u18 :: undef :: u20 :: u21 :: u22 :: u23 :: u24 :: .bool true :: .bool false :: .slice A L.length c :: .int .i64 ↑L.length :: .int .i64 (i : Int) :: .bool false :: u31 :: u32 :: u33 :: u34 :: u35 :: u36 :: u37 :: u38 :: u39 :: u40 :: u41 :: u42 :: .int .i64 (d : Int) :: .bool true :: u45 :: u46 :: .tuple #[A8 (z8 32), A8 (z8 32), .bool false] :: .agg #[.pointer p, .int .i64 ↑d] :: .tuple #[A8 (z8 32), A8 (z8 32), .bool false] :: A8 (z8 32) :: A8 (z8 32) :: .bool false :: .tuple #[.agg #[.pointer pl, .int .i64 (↑d + 1)], .agg #[.pointer pr, .int .i64 (↑d + 1)], .bool true] :: .agg #[.pointer p, .int .i64 ↑d] :: .tuple #[.agg #[.pointer pl, .int .i64 (↑d + 1)], .agg #[.pointer pr, .int .i64 (↑d + 1)], .bool true] :: .agg #[.pointer pl, .int .i64 (↑d + 1)] :: .agg #[.pointer pr, .int .i64 (↑d + 1)] :: .bool true :: .agg #[.pointer pl, .int .i64 (↑d + 1)] :: A8 l.root :: .agg #[.pointer pr, .int .i64 (↑d + 1)] :: A8 r.root :: .bool false :: .agg #[.pointer p, .int .i64 ↑d] :: .int .i64 ↑(l.len + r.len) :: .bool false :: u67 :: u68 :: u69 :: u70 :: u71 :: u72 :: u73 :: u74 :: u75 :: u76 :: u77 :: u78 :: .bool false :: .bool false :: u81 :: u82 :: u83 :: u84 :: u85 :: u86 :: u87 :: u88 :: u89 :: u90 :: u91 :: u92 :: u93 :: u94 :: u95 :: u96 :: u97 :: u98 :: u99 :: u100 :: u101 :: u102 :: u103 :: u104 :: u105 :: u106 :: u107 :: u108 :: u109 :: u110 :: u111 :: u112 :: .bool true :: .bool false :: .bool false :: .agg #[.pointer p, .int .i64 ↑d] :: x117x :: y118y :: .slice (some ⟨ga, 0, none⟩) 32 32 :: .slice (some ⟨gb, 0, none⟩) 32 32 :: z121z :: u122 :: u123 :: u124 :: u125 :: u126 :: u127 :: u128 :: u129 :: u130 :: u131 :: u132 :: u133 :: u134 :: u135 :: u136 :: u137 :: u138 :: u139 :: u140 :: u141 :: u142 :: u143 :: u144 :: u145 :: u146 :: u147 :: u148 :: u149 :: u150 :: u151 :: u152 :: u153 :: u154 :: u155 :: u156 :: u157 :: u158 :: u159 :: u160 :: u161 :: u162 :: u163 :: u164 :: u165 :: u166 :: u167 :: u168 :: u169 :: u170 :: u171 :: u172 :: u173 :: u174 :: u175 :: u176 :: u177 :: u178 :: u179 :: u180 :: u181 :: u182 :: u183 :: u184 :: u185 :: u186 :: u187 :: u188 :: u189 :: u190 :: u191 :: []).toArray, []⟩) (fun y W => ∃ gy : Nat, y = .slice (some ⟨gy, 0, none⟩) 1 1 ∧ By W 0 W.heap.size y [1]) (fun z W => Parts W W.heap.size z [[1], l.root, r.root]) (by kernel_rfl) (by kernel_rfl) (by kernel_rfl) (by kernel_rfl) (by kernel_rfl) (by kernel_rfl) (by kernel_rfl) (by kernel_rfl) (by kernel_rfl) (by rfl) (by rfl) (by rfl) (fun _ _ _ => rfl) (fun _ _ _ => rfl) (fun _ _ _ => rfl)
                  (fun y W W' h hb => by obtain ⟨gy, e, h⟩ := h; exact ⟨gy, e, (h.below hb).more hb.size⟩) (fun z W W' h hb => (h.below hb).more hb.size) S0 (ri := A8 (Tr.nd l r).root) ?ni ?nj ?nm ?nr
                case ni =>
                  intro y z W hW Q' hQ'
                  dsimp only [bare]
                  go_wp2_with fail
                  refine (troot_any (.nd l r) (.pointer p) d W ((hAt7.below hW).more hW.size)).mono ?_
                  rintro e W5 ⟨rfl, h5⟩
                  go_wp2_with fail
                  exact hQ' _ (below_two hW h5 hW.size) h5
                case nj =>
                  intro x W hW Q' hQ'
                  dsimp only [bare]
                  go_wp2_with fail
                  refine hQ' _ _ (below_two hW ((Below.refl _ _).alloc (Nat.le_refl _) _) hW.size) ?_
                  exact ⟨_, rfl, (By.build W 5 (0, 0) [1] (by simp)).more (by simp)⟩
                case nm =>
                  rintro x y W hW ⟨gy, rfl, hy⟩ Q' hQ'
                  have hkk : By W 0 W.heap.size (.slice (some ⟨ga, 0, none⟩) 32 32) l.root := (Ka7.below hW Ka7.lt).whole 32 hl1 (by have := Ka7.lt; have := hW.size; omega)
                  have hvv : By W 0 W.heap.size (.slice (some ⟨gb, 0, none⟩) 32 32) r.root := (Kb7.below hW Kb7.lt).whole 32 hl2 (by have := Kb7.lt; have := hW.size; omega)
                  dsimp only [bare]
                  go_wp2_with fail
                  refine hQ' _ _ (below_two hW ((Below.refl _ _).alloc (Nat.le_refl _) _) hW.size) ?_
                  have := Parts.three W 22 _ _ _ _ _ _ hy hkk hvv
                  simpa using this
                case nr =>
                  intro y z W hW hz
                  refine held_one 9 (by kernel_rfl) (by rfl) (by rfl) (fun Q' hQ' => ?_)
                  dsimp only [bare]
                  go_wp2_with fail
                  refine (sum256_any _ [[1], l.root, r.root] W hz (by simp [hl1, hl2])).mono ?_
                  rintro e W6 ⟨rfl, h6⟩
                  have hroot : sum32 [[1], l.root, r.root].flatten = (Tr.nd l r).root := by simp [Tr.root]
                  rw [hroot]
                  have S6 := below_two hW h6 hW.size
                  clear hroot h6 hz
                  go_wp2_with fail
                  refine hQ' _ _ S6 ?_
                  clear hQ' hW
                  refine held_quiet (A := ?A21c) [10, 11, 12, 13, 15, 18] (by kernel_rfl) (by kernel_rfl) rfl (by kernel_rfl) (by kernel_rfl) S6 (h := fun W hW => ?h21c) (hr := ?r21c)
                  case h21c =>
                    have hrl := Tr.root_length (Tr.nd l r)
                    have T1 := KT7.below hW KT7.lt
                    have T2 := PL7.below hW PL7.lt
                    have T3 := PR7.below hW PR7.lt
                    have c0 : W.cell? ⟨gT, 0, none⟩ = some (.pointer p) := T1.at_ rfl
                    have c1 : W.cell? ⟨gT, 1, none⟩ = some (.int .i64 (d : Int)) := T1.at_ rfl
                    have c2 : W.cell? ⟨gL, 0, none⟩ = some (.pointer pl) := T2.at_ rfl
                    have c3 : W.cell? ⟨gL, 1, none⟩ = some (.int .i64 ((d : Int) + 1)) := T2.at_ rfl
                    have c4 : W.cell? ⟨gL + 1, 0, none⟩ = some (.pointer pr) := T3.at_ rfl
                    have c5 : W.cell? ⟨gL + 1, 1, none⟩ = some (.int .i64 ((d : Int) + 1)) := T3.at_ rfl
                    simp only [List.append_eq, List.nil_append, List.cons_append, pick, List.getElem?_cons_zero, List.getElem?_cons_succ]
                    repeat (go_big_quiet_step (fail))
                    refine wpQuiet_nil ?_
                    rfl
                  case r21c =>
                    refine held_one 14 (by kernel_rfl) (by rfl) (by rfl) (fun Q' hQ' => ?_)
                    dsimp only [bare]
                    go_wp2_with fail
                    refine (tlen_any l (.pointer pl) ((d : Int) + 1) W6 ((hal7.below S6).more S6.size)).mono ?_
                    rintro e W7 ⟨rfl, h7⟩
                    have S7 := below_two S6 h7 S6.size
                    go_wp2_with fail
                    refine hQ' _ _ S7 ?_
                    clear hQ' h7
                    refine held_one 16 (by kernel_rfl) (by rfl) (by rfl) (fun Q' hQ' => ?_)
                    dsimp only [bare]
                    go_wp2_with fail
                    refine (tlen_any r (.pointer pr) ((d : Int) + 1) W7 ((har7.below S7).more S7.size)).mono ?_
                    rintro e W8 ⟨rfl, h8⟩
                    have S8 := below_two S7 h8 S7.size
                    go_wp2_with fail
                    refine hQ' _ _ S8 ?_
                    clear hQ' h8
                    refine held_quiet (A := ?A21d) [17] (by kernel_rfl) (by kernel_rfl) rfl (by kernel_rfl) (by kernel_rfl) S8 (h := fun W hW => ?h21d) (hr := ?r21d)
                    case h21d =>
                      simp only [List.append_eq, List.nil_append, List.cons_append, pick, List.getElem?_cons_zero, List.getElem?_cons_succ]
                      repeat (go_big_quiet_step (fail))
                      refine wpQuiet_nil ?_
                      rfl
                    case r21d =>
                      refine held_one 19 (by kernel_rfl) (by rfl) (by rfl) (fun Q' hQ' => ?_)
                      dsimp only [bare]
                      go_wp2_with fail
                      refine (tlen_any (.nd l r) (.pointer p) d W8 ((hAt7.below S8).more S8.size)).mono ?_
                      rintro e W9 ⟨rfl, h9⟩
                      have S9 := below_two S8 h9 S8.size
                      dsimp only [Tr.len]
                      go_wp2_with fail
                      refine hQ' _ _ S9 ?_
                      clear hQ' h9
                      refine held_quiet (A := ?A21e) [20, 21] (by kernel_rfl) (by kernel_rfl) rfl (by kernel_rfl) (by kernel_rfl) S9 (h := fun W hW => ?h21e) (hr := ?r21e)
                      case h21e =>
                        have hne : (((l.len : Int) + (r.len : Int)) != (((l.len + r.len : Nat)) : Int)) = false := by simp
                        simp only [List.append_eq, List.nil_append, List.cons_append, pick, List.getElem?_cons_zero, List.getElem?_cons_succ]
                        repeat (go_big_quiet_step (fail))
                        refine wpQuiet_nil ?_
                        rfl
                      case r21e =>
                        refine held_one 22 (by kernel_rfl) (by rfl) (by rfl) (fun Q' hQ' => ?_)
                        dsimp only [bare]
                        go_wp2_with fail
                        refine hQ' _ _ S9 ?_
                        clear hQ'
                        refine held_end (by kernel_rfl) ?_
                        have KT9 := KT7.below S9 KT7.lt
                        have PL9 := PL7.below S9 PL7.lt
                        have PR9 := PR7.below S9 PR7.lt
                        have hAt9 := (hAt7.below S9).more S9.size
                        have hal9 := (hal7.below S9).more S9.size
                        have har9 := (har7.below S9).more S9.size
                        have B9 := below_two B7 S9 B7.size
                        have t0 : W9.cell? ⟨gT, 0, none⟩ = some (.pointer p) := KT9.at_ rfl
                        have t1 : W9.cell? ⟨gT, 1, none⟩ = some (.int .i64 (d : Int)) := KT9.at_ rfl
                        clear KT7 PL7 PR7 hAt7 hal7 har7 B7 S9 S8 S7 S6 Ka7 Kb7
                        go_wp2_with fail
                        refine (listed_any (.nd l r) (.pointer p) d P W9 ok (by simp only [Tr.len]; omega) hAt9).mono ?_
                        rintro e W10 ⟨us, rfl, hus, h10⟩
                        have KT10 := KT9.below h10 KT9.lt
                        have PL10 := PL9.below h10 PL9.lt
                        have PR10 := PR9.below h10 PR9.lt
                        have hAt10 := (hAt9.below h10).more h10.size
                        have hal10 := (hal9.below h10).more h10.size
                        have har10 := (har9.below h10).more h10.size
                        have B10 := below_two B9 h10 B9.size
                        clear KT9 PL9 PR9 hAt9 hal9 har9 B9 h10 t0 t1
                        have hps := hus.ps
                        obtain ⟨A3, c3, rfl, hc31, hc32⟩ := hus.form
                        have hplen : (Tr.nd l r).pairs.length ≤ 30 := by rw [← Tr.len_pairs]; simpa only [Tr.len] using hls
                        generalize hprs : (Tr.nd l r).pairs = prs at *
                        have Hprs := Lib.hid hprs
                        clear hprs
                        go_wp2_with fail
                        go_loopw [138] (fun t wr3 => ∃ j : Nat, j ≤ prs.length ∧ t = .int .i64 (j : Int) ∧ Below W10.heap.size W10 wr3) (fun t _ => prs.length - (intOf t).toNat)
                        case atStart => exact ⟨0, by omega, rfl, Below.refl _ _⟩
                        case round =>
                          obtain ⟨j, hj, rfl, S⟩ := hrel
                          have KTj := KT10.below S KT10.lt
                          have PLj := PL10.below S PL10.lt
                          have PRj := PR10.below S PR10.lt
                          have hAtj := (hAt10.below S).more S.size
                          have halj := (hal10.below S).more S.size
                          have harj := (har10.below S).more S.size
                          have Bj := below_two B10 S B10.size
                          by_cases hjl : j < prs.length
                          · obtain ⟨q, hp⟩ : ∃ p, prs[j]? = some p := ⟨_, List.getElem?_eq_getElem hjl⟩
                            have hqok : PrOk q := hps.1 q (List.mem_of_getElem? hp)
                            obtain ⟨gs, os, cs, hs⟩ := hps.sub
                            rcases hs with ⟨hrow, _, hg, hA, _, _⟩ | hs
                            · injection hA with hA _ hA3
                              subst hA hA3
                              have hr := (hrow j q hp).1
                              have hrw : rowAt wr ⟨gs, os + j * 64, none⟩ 64 = some (c8 (pb q)) := (rowAt_below S hg).trans hr
                              have hq1 := hqok.1
                              have hq2 := hqok.2
                              have hqlen := hqok.len
                              obtain ⟨xl, xr, bl, br, hxl, hxr, egl, egr, hcase⟩ := res_split ok (q := q) (by rw [Hprs.out]; exact List.mem_of_getElem? hp)
                              have Egl := Lib.hid egl
                              have Egr := Lib.hid egr
                              have Hcase := Lib.hid hcase
                              obtain ⟨W, hW⟩ : ∃ y, y = putAt (wr.alloc (Obj.cells (c8 (z8 64)).toArray 36)) ⟨wr.heap.size, 0, none⟩ (c8 (pb q)) := ⟨_, rfl⟩
                              have hBq : Below wr.heap.size wr W := by rw [hW]; exact below_putAt ((Below.refl _ _).alloc (Nat.le_refl _) _) (Nat.le_refl _) _
                              have Q1 : Bk W wr.heap.size 36 (c8 (pb q)) := by rw [hW]; exact Bk.fresh wr _ (by simp [hqlen])
                              have SW := below_two S hBq S.size
                              have PLW := PLj.below hBq PLj.lt
                              have c2 : W.cell? ⟨gL, 0, none⟩ = some (.pointer pl) := PLW.at_ rfl
                              have c3 : W.cell? ⟨gL, 1, none⟩ = some (.int .i64 ((d : Int) + 1)) := PLW.at_ rfl
                              have qk := pair_key Q1 hqok
                              rw [hW] at c2 c3 qk
                              clear egl egr hcase hr hp hrow KTj hAtj Bj PLj PLW
                              go_wp2_with fail
                              rw [← hW]
                              clear c2 c3 qk hrw
                              refine (tget_any q.1 hq1 (d + 1) l (upd P d false) (.pointer pl) W (by have := ok.1; omega) ok.2.2.1 ((halj.below hBq).more hBq.size)).mono ?_
                              rintro e W5 ⟨rfl, h5⟩
                              rw [Egl.out]
                              clear halj
                              have Q5 := Q1.below h5 Q1.lt
                              have S5 := below_two SW h5 SW.size
                              obtain ⟨W6, hW6⟩ : ∃ y, y = putAt (W5.alloc (Obj.cells (c8 (z8 32)).toArray 25)) ⟨W5.heap.size, 0, none⟩ (c8 xl) := ⟨_, rfl⟩
                              have hB6 : Below W5.heap.size W5 W6 := by rw [hW6]; exact below_putAt ((Below.refl _ _).alloc (Nat.le_refl _) _) (Nat.le_refl _) _
                              have X6 : Bk W6 W5.heap.size 25 (c8 xl) := by rw [hW6]; exact Bk.fresh W5 _ (by simp [hxl])
                              have Q6 := Q5.below hB6 Q5.lt
                              have S6 := below_two S5 hB6 S5.size
                              have PR6 := PR10.below S6 PR10.lt
                              have c4 : W6.cell? ⟨gL + 1, 0, none⟩ = some (.pointer pr) := PR6.at_ rfl
                              have c5 : W6.cell? ⟨gL + 1, 1, none⟩ = some (.int .i64 ((d : Int) + 1)) := PR6.at_ rfl
                              have qk := pair_key Q6 hqok
                              rw [hW6] at c4 c5 qk
                              clear h5 Q5 hB6 S5 PR6
                              go_wp2_with fail
                              rw [← hW6]
                              clear c4 c5 qk
                              refine (tget_any q.1 hq1 (d + 1) r (upd P d true) (.pointer pr) W6 (by have := ok.1; omega) ok.2.2.2 ((har10.below S6).more S6.size)).mono ?_
                              rintro e W7 ⟨rfl, h7⟩
                              rw [Egr.out]
                              have Q7 := Q6.below h7 Q6.lt
                              have X7 := X6.below h7 X6.lt
                              have S7 := below_two S6 h7 S6.size
                              obtain ⟨W8, hW8⟩ : ∃ y, y = putAt (W7.alloc (Obj.cells (c8 (z8 32)).toArray 25)) ⟨W7.heap.size, 0, none⟩ (c8 xr) := ⟨_, rfl⟩
                              have hB8 : Below W7.heap.size W7 W8 := by rw [hW8]; exact below_putAt ((Below.refl _ _).alloc (Nat.le_refl _) _) (Nat.le_refl _) _
                              have Y8 : Bk W8 W7.heap.size 25 (c8 xr) := by rw [hW8]; exact Bk.fresh W7 _ (by simp [hxr])
                              have Q8 := Q7.below hB8 Q7.lt
                              have X8 := X7.below hB8 X7.lt
                              have S8 := below_two S7 hB8 S7.size
                              have qv := pair_val Q8 hqok
                              have r1 := X8.rows
                              have r2 := Y8.rows
                              rw [length_c8, hxl] at r1
                              rw [length_c8, hxr] at r2
                              rw [hW8] at qv r1 r2
                              clear h7 Q7 X7 hB8 S7 S6 X6 Q6 hW6 Q1 SW hW
                              rcases Hcase.out with ⟨rfl, rfl, rfl⟩ | ⟨rfl, rfl, rfl⟩
                              · go_wp2_with fail
                                rw [← hW8]
                                go_roundw
                                case rel => exact ⟨j + 1, by omega, by go_num, S8⟩
                                case measure => simp [intOf]; omega
                              · go_wp2_with fail
                                rw [← hW8]
                                go_roundw
                                case rel => exact ⟨j + 1, by omega, by go_num, S8⟩
                                case measure => simp [intOf]; omega
                            · subst hs; simp at hjl
                          · have hd256 := ok.1
                            have t0 : wr.cell? ⟨gT, 0, none⟩ = some (.pointer p) := KTj.at_ rfl
                            have t1 : wr.cell? ⟨gT, 1, none⟩ = some (.int .i64 (d : Int)) := KTj.at_ rfl
                            have c2 : wr.cell? ⟨gL, 0, none⟩ = some (.pointer pl) := PLj.at_ rfl
                            have c3 : wr.cell? ⟨gL, 1, none⟩ = some (.int .i64 ((d : Int) + 1)) := PLj.at_ rfl
                            have c4 : wr.cell? ⟨gL + 1, 0, none⟩ = some (.pointer pr) := PRj.at_ rfl
                            have c5 : wr.cell? ⟨gL + 1, 1, none⟩ = some (.int .i64 ((d : Int) + 1)) := PRj.at_ rfl
                            have f0 := KTj.frozen 0
                            have f1 := KTj.frozen 1
                            by_cases hdm : d < M.length
                            · obtain ⟨gm, om, rfl, _, hgm, hmr⟩ := hMr.some (by simp; omega)
                              obtain ⟨x, hx⟩ : ∃ x, M[d]? = some x := ⟨_, List.getElem?_eq_getElem hdm⟩
                              have hbyte : wr.cell? ⟨gm, om + d, none⟩ = some (.int .u8 (n8 x)) := (Bj.cell hgm).trans (hmr d _ (by simp [hx]; rfl))
                              have hdm' : decide ((d : Int) < (M.length : Int)) = true := decide_eq_true (by omega)
                              clear hmr hx
                              go_wp2_with fail
                              · refine ⟨⟨d + 1, r, upd P d true, pr, by omega, by go_num, ok.2.2.2, by omega, ?_, by push_cast; exact (KTj.set_ 0 (.pointer pr)).set_ 1 (.int .i64 ((d : Int) + 1)), (Bj.setCell (p := ⟨gT, 0, none⟩) zT0 _).setCell (p := ⟨gT, 1, none⟩) zT0 _⟩, by simp [intOf]; omega⟩
                                exact ((harj.set_ KTj (by decide) 0 (.pointer pr)).set_ (KTj.set_ 0 (.pointer pr)) (by decide) 1 (.int .i64 ((d : Int) + 1))).more (by simp)
                              · refine ⟨⟨d + 1, l, upd P d false, pl, by omega, by go_num, ok.2.2.1, by omega, ?_, by push_cast; exact (KTj.set_ 0 (.pointer pl)).set_ 1 (.int .i64 ((d : Int) + 1)), (Bj.setCell (p := ⟨gT, 0, none⟩) zT0 _).setCell (p := ⟨gT, 1, none⟩) zT0 _⟩, by simp [intOf]; omega⟩
                                exact ((halj.set_ KTj (by decide) 0 (.pointer pl)).set_ (KTj.set_ 0 (.pointer pl)) (by decide) 1 (.int .i64 ((d : Int) + 1))).more (by simp)
                            · have hdm' : decide ((d : Int) < (M.length : Int)) = false := decide_eq_false (by omega)
                              go_wp2_with fail
                              refine ⟨⟨d + 1, l, upd P d false, pl, by omega, by go_num, ok.2.2.1, by omega, ?_, by push_cast; exact (KTj.set_ 0 (.pointer pl)).set_ 1 (.int .i64 ((d : Int) + 1)), (Bj.setCell (p := ⟨gT, 0, none⟩) zT0 _).setCell (p := ⟨gT, 1, none⟩) zT0 _⟩, by simp [intOf]; omega⟩
                              exact ((halj.set_ KTj (by decide) 0 (.pointer pl)).set_ (KTj.set_ 0 (.pointer pl)) (by decide) 1 (.int .i64 ((d : Int) + 1))).more (by simp)
end Go.Proofs.Ytpalomkcgfalnaa
