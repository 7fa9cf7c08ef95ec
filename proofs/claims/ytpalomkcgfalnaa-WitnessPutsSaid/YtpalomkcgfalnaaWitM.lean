/- witanref10.Cut: the bytes of a part of pairs for keys, by definition. -/
import Derived.Test.YtpalomkcgfalnaaWitE
set_option linter.unusedVariables false
set_option linter.unusedSimpArgs false
namespace Go.Proofs.Ytpalomkcgfalnaa
open Go Go.RowKit Sh
theorem hs_own' {W : World} {base : Nat} {T : TypeId} {v : Value} {n : Nat} {ks : List (List UInt8)} (h : W.ownsRow base T 32 v n (c8 ks.flatten)) (hn : ks.length = n) (hk : ∀ k ∈ ks, k.length = 32) : Hs W base W.heap.size v ks := by
  obtain ⟨A, c, rfl, h1, h2⟩ := ownsRow_form h
  subst hn
  exact ⟨hk, A, c, rfl, h1, by unfold maxLen; exact h2, ownsRow_rd h⟩
theorem Hs.less {w : World} {lo lo' B : Nat} {v : Value} {l : List (List UInt8)} (h : Hs w lo B v l) (hB : lo' ≤ lo) : Hs w lo' B v l := let ⟨h0, A, c, h1, h2, h3, h4⟩ := h; ⟨h0, A, c, h1, h2, h3, h4.less hB⟩
theorem Own8.build (w : World) (l : List UInt8) (hl : l.length ≤ 1000000) : Own8 (w.alloc (.cells (l.map v8).toArray 5)) w.heap.size (.slice (some ⟨w.heap.size, 0, none⟩) l.length l.length) l :=
  ⟨by simp, .inr ⟨w.heap.size, l.length, (l.map v8).toArray, rfl, Nat.le_refl _, heap_alloc_new w _, Nat.le_refl _, by simp only [maxLen]; omega, by simp, by simp [List.take_of_length_le]⟩⟩
def Tr.cutB (t : Tr) (ks : List (List UInt8)) (d : Nat) : List UInt8 := (t.cut ks d).bytes
set_option maxRecDepth 100000 in
theorem refcut_nil (d : Nat) (v k : Value) (ks : List (List UInt8)) (w : World) (hv : Ps w 0 w.heap.size v (Tr.pairs .e)) :
    Calls Try.prog 39 #[v, k, .int .i64 (d : Int)] w fun e w' => ∃ u, e = .returned u ∧ By w' 0 w'.heap.size u (Tr.cutB .e ks d) ∧ Below w.heap.size w w' := by
  obtain ⟨A, c, rfl, hc1, hc2⟩ := hv.form
  go_enter Try.func39, Try.ntmps39
  go_wp2_with fail
  go_ret
  exact ⟨_, rfl, (By.build w 5 (0, 0) [0] (by simp)).more (by simp), (Below.refl _ _).alloc (Nat.le_refl _) _⟩
set_option maxRecDepth 100000 in
theorem refcut_hidden (t : Tr) (hp : 0 < t.len) (hlen : t.len ≤ 274877906944) (d : Nat) (P : Nat → Bool) (ok : Ok d P t) (hd : d ≤ 256) (v k : Value) (w : World) (hv : Ps w 0 w.heap.size v t.pairs) (hk : Hs w 0 w.heap.size k []) :
    Calls Try.prog 39 #[v, k, .int .i64 (d : Int)] w fun e w' => ∃ u, e = .returned u ∧ By w' 0 w'.heap.size u (t.cutB [] d) ∧ Below w.heap.size w w' := by
  have ec : t.cutB [] d = [3] ++ t.root := by unfold Tr.cutB; cases t with | e => simp [Tr.len] at hp | lf _ _ => rfl | nd _ _ => rfl
  rw [ec]
  clear ec
  have hrl := t.root_length
  have hcall := refroot_any t d d P v w rfl ok hd hlen hv
  obtain ⟨A, c, hv1, hc1, hc2⟩ := hv.form
  obtain ⟨A2, c2, hk1, hc3, hc4⟩ := hk.form
  have hne : ((t.pairs.length : Int) == 0) = false := beq_eq_false_iff_ne.2 (by rw [← Tr.len_pairs]; omega)
  subst hv1 hk1
  generalize t.root = r at *
  go_enter Try.func39, Try.ntmps39
  go_wp2_with fail
  refine hcall.mono ?_
  rintro e w1 ⟨rfl, hb1⟩
  obtain ⟨W2, hW2⟩ : ∃ x, x = putAt (w1.alloc (Obj.cells (c8 (z8 32)).toArray 25)) ⟨w1.heap.size, 0, none⟩ (c8 r) := ⟨_, rfl⟩
  have b2 : Below w1.heap.size w1 W2 := by rw [hW2]; exact below_putAt ((Below.refl _ _).alloc (Nat.le_refl _) _) (Nat.le_refl _) _
  have R2 : Bk W2 w1.heap.size 25 (c8 r) := by rw [hW2]; exact Bk.fresh w1 _ (by simp [hrl])
  have z2 : W2.heap.size = w1.heap.size + 1 := by rw [hW2]; simp
  have B2 := below_two hb1 b2 hb1.size
  obtain ⟨W3, hW3⟩ : ∃ x, x = W2.alloc (Obj.cells #[.int .u8 3] 5) := ⟨_, rfl⟩
  have b3 : Below W2.heap.size W2 W3 := by rw [hW3]; exact (Below.refl _ _).alloc (Nat.le_refl _) _
  have O3 : Own8 W3 W2.heap.size (.slice (some ⟨W2.heap.size, 0, none⟩) 1 1) [3] := by rw [hW3]; exact Own8.build W2 [3] (by simp)
  have R3 := R2.below b3 R2.lt
  have Y3 := R3.whole 32 hrl (by omega)
  have B3 := below_two B2 b3 B2.size
  rw [z2] at O3
  have zz := b3.size
  go_wp2_with (at_builtin; rw [← hW2, ← hW3]; refine app8 _ _ _ _ rfl _ _ rfl rfl O3 _ rfl r 0 _ Y3 (by simp [hrl]) (by omega) ?_; intro A4 c4 w4 hc41 hc42 hO4 hB4 hg4 ha4; obtain ⟨u4, hu4⟩ : ∃ u, u = Value.slice A4 ([3] ++ r).length c4 := ⟨_, rfl⟩; rw [← hu4] at hO4 ha4 ⊢; clear hu4 hc41 hc42)
  go_ret
  exact ⟨_, rfl, by simpa using (hO4.by_).less (Nat.zero_le _), B3.trans (hB4.mono (by have := hb1.size; omega))⟩
set_option maxRecDepth 100000 in
theorem refcut_leaf (kk x : List UInt8) (d : Nat) (P : Nat → Bool) (ok : Ok d P (.lf kk x)) (v k : Value) (ks : List (List UInt8)) (hne : 0 < ks.length) (w : World) (hv : Ps w 0 w.heap.size v (Tr.lf kk x).pairs) (hk : Hs w 0 w.heap.size k ks) :
    Calls Try.prog 39 #[v, k, .int .i64 (d : Int)] w fun e w' => ∃ u, e = .returned u ∧ By w' 0 w'.heap.size u (Tr.cutB (.lf kk x) ks d) ∧ Below w.heap.size w w' := by
  have ec : Tr.cutB (.lf kk x) ks d = ([1] ++ kk) ++ x := by unfold Tr.cutB; cases ks with | nil => simp at hne | cons _ _ => rfl
  rw [ec]
  clear ec
  have hk1 := ok.1
  have hx := ok.2.1
  obtain ⟨A, c, hv1, hc1, hc2⟩ := hv.form
  have hsub := hv.sub
  obtain ⟨A2, c2, hk2, hc3, hc4⟩ := hk.form
  have hks : ((ks.length : Int) == 0) = false := beq_eq_false_iff_ne.2 (by omega)
  have e1 : (Tr.lf kk x).pairs.length = 1 := rfl
  rw [e1] at hv1 hc1 hsub
  subst hv1 hk2
  obtain ⟨g, o, c', hs⟩ := hsub
  rcases hs with ⟨hrow, _, hg, hA, _, _⟩ | hs
  · injection hA with hA _ hA3
    subst hA hA3
    obtain ⟨_, hrk, hrx⟩ := hrow 0 (kk, x) rfl
    simp only [Nat.zero_mul, Nat.add_zero] at hrk hrx
    clear hrow
    obtain ⟨W1, hW1⟩ : ∃ y, y = w.alloc (Obj.cells #[.int .u8 1] 5) := ⟨_, rfl⟩
    have b1 : Below w.heap.size w W1 := by rw [hW1]; exact (Below.refl _ _).alloc (Nat.le_refl _) _
    have O1 : Own8 W1 w.heap.size (.slice (some ⟨w.heap.size, 0, none⟩) 1 1) [1] := by rw [hW1]; exact Own8.build w [1] (by simp)
    have Yk := By.of_row ((rowAt_below b1 hg).trans hrk) (Nat.lt_of_lt_of_le hg b1.size) (by omega)
    go_enter Try.func39, Try.ntmps39
    have zz := b1.size
    have hgw : g < w.heap.size := hg
    go_wp2_with (first
      | (at_builtin; rw [← hW1]; refine app8 _ w.heap.size _ _ rfl _ _ rfl rfl O1 _ rfl kk 0 _ Yk (by simp [hk1]) (by omega) ?_; intro A4 c4 w4 hc41 hc42 hO4 hB4 hg4 ha4; obtain ⟨u4, hu4⟩ : ∃ u, u = Value.slice A4 ([1] ++ kk).length c4 := ⟨_, rfl⟩; rw [← hu4] at hO4 ha4 ⊢; clear hu4 hc41 hc42; have Yx := By.of_row ((rowAt_below hB4 hg).trans ((rowAt_below b1 hg).trans hrx)) (Nat.lt_of_lt_of_le hg (Nat.le_trans b1.size hB4.size)) (by omega); have zz4 := hB4.size; clear hW1)
      | (at_builtin; refine app8 _ w.heap.size _ _ rfl _ _ rfl rfl hO4 _ rfl x 0 _ Yx (by simp [hk1, hx]) (by omega) ?_; intro A5 c5 w5 hc51 hc52 hO5 hB5 hg5 ha5; obtain ⟨u5, hu5⟩ : ∃ u, u = Value.slice A5 (([1] ++ kk) ++ x).length c5 := ⟨_, rfl⟩; rw [← hu5] at hO5 ha5 ⊢; clear hu5 hc51 hc52))
    go_ret
    exact ⟨_, rfl, by simpa using (hO5.by_).less (Nat.zero_le _), (b1.trans hB4).trans hB5⟩
  · cases hs
def subT (l r : Tr) (b : Bool) : Tr := if b then r else l
def keysOf (ks : List (List UInt8)) (d : Nat) (b : Bool) : List (List UInt8) := ks.filter fun x => kbit x d == b
def cutS (l r : Tr) (ks : List (List UInt8)) (d : Nat) (b : Bool) : List UInt8 := (subT l r b).cutB (keysOf ks d b) (d + 1)
def cutO (l r : Tr) (ks : List (List UInt8)) (d : Nat) : Nat → List UInt8
  | 0 => [2]
  | 1 => [2] ++ cutS l r ks d false
  | _ => ([2] ++ cutS l r ks d false) ++ cutS l r ks d true
theorem keys_yes {ks : List (List UInt8)} {d : Nat} {b : Bool} {k : List UInt8} (h : kbit k d = b) : keysOf (ks ++ [k]) d b = keysOf ks d b ++ [k] := by simp [keysOf, List.filter_append, h]
theorem keys_no {ks : List (List UInt8)} {d : Nat} {b : Bool} {k : List UInt8} (h : (kbit k d == b) = false) : keysOf (ks ++ [k]) d b = keysOf ks d b := by simp [keysOf, List.filter_append]; simpa using h
theorem side_no' {b : Bool} {d : Nat} {m : List Pr} {q : Pr} (h : (kbit q.1 d == b) = false) : side b d (m ++ [q]) = side b d m := by simp [side, List.filter_append]; simpa using h
theorem cut_nd {l r : Tr} {ks : List (List UInt8)} {d : Nat} (h : 0 < ks.length) : Tr.cutB (.nd l r) ks d = cutO l r ks d 2 := by
  have hie : ks.isEmpty = false := by cases ks with | nil => simp at h | cons _ _ => rfl
  simp only [Tr.cutB, Tr.cut, hie, if_false, Bool.false_eq_true, Pt.bytes, cutO, cutS, subT, keysOf]
  simp
theorem sub_pairs {l r : Tr} {d : Nat} {P : Nat → Bool} (ok : Ok d P (.nd l r)) (b : Bool) : side b d (Tr.nd l r).pairs = (subT l r b).pairs := by
  cases b
  · exact side_l ok
  · exact side_r ok
def OwnK (w : World) (base : Nat) (v : Value) (ks : List (List UInt8)) : Prop := (∀ k ∈ ks, k.length = 32) ∧ w.ownsRow base 25 32 v ks.length (c8 ks.flatten)
theorem OwnK.nil (w : World) (base : Nat) : OwnK w base (.slice none 0 0) [] := ⟨by simp, World.ownsRow_nil w base _ _⟩
theorem OwnK.below {w w' : World} {base B : Nat} {v : Value} {ks : List (List UInt8)} (h : OwnK w base v ks) (hb : Below B w w') (hB : w.heap.size ≤ B) : OwnK w' base v ks := ⟨h.1, ownsRow_below h.2 hb hB⟩
theorem OwnK.hs {w : World} {base : Nat} {v : Value} {ks : List (List UInt8)} (h : OwnK w base v ks) : Hs w base w.heap.size v ks := hs_own' h.2 rfl h.1
theorem OwnK.form {w : World} {base : Nat} {v : Value} {ks : List (List UInt8)} (h : OwnK w base v ks) : ∃ A c, v = .slice A ks.length c ∧ ks.length ≤ c ∧ c ≤ 9223372036854775807 := ownsRow_form h.2
section
variable {w : World} {base : Nat} {v : Value} {ks : List (List UInt8)} {ops : Array Oper} {rest : List Oper} {o : Oper} {a : Act} {Q : Exit → Act → World → Prop}
/-- append(ks, k): the key first lies in a block of its own. -/
theorem appK (hgd : o.guard = none) (s x : Operand) (ho : o.op = .call { callee := .builtin .append, args := #[s, x], argTypes := #[50, 50] })
    (hs : a.eval s = v) (hown : OwnK w base v ks) (k : List UInt8) (hk : k.length = 32) (m : List UInt8) (hm : m = k) {N : Nat} (hx : a.eval x = .slice (some ⟨N, 0, none⟩) 1 1) (hN : w.heap.size = N) (hsz : ks.length ≤ 1099511627) (hb : base ≤ w.heap.size)
    (h : ∀ A c w', OwnK w' base (.slice A (ks.length + 1) c) (ks ++ [k]) → Below base w w' → wpList Try.prog ops Q rest (a.put o.dst (.slice A (ks.length + 1) c)) w') : wpList Try.prog ops Q (o :: rest) a (w.alloc (.cells (c8 m).toArray 25)) := by
  subst hm hN
  have hB := Bk.new w 25 (c8 m)
  have hown' := hown.below ((Below.refl _ _).alloc (Nat.le_refl _) (.cells (c8 m).toArray 25)) (Nat.le_refl _)
  refine appR 50 (A8 (z8 32)) 32 Try.underlying50 infoH (by simp [A8, Value.cells]) (by decide) (by decide) hgd s x ho hs hown'.2 (some ⟨w.heap.size, 0, none⟩) 1 1 hx (c8 m) (by simp [hk]) 0 (w.heap.size + 1) (.inr ⟨w.heap.size, 0, rfl, Nat.zero_le _, by omega, fun j u hj => by rw [Nat.zero_add]; exact hB.at_ hj⟩) (by intro u hu; obtain ⟨y, _, rfl⟩ := List.mem_map.1 hu; rfl) (by omega) (by simp; omega) ?_
  intro A c w' _ _ ho' hb' _ _
  refine h A c w' ⟨fun q hq => ?_, ?_⟩ (((Below.refl _ _).alloc hb _).trans hb')
  · rcases List.mem_append.1 hq with hq | hq
    · exact hown.1 q hq
    · simp at hq; subst hq; exact hk
  · have e : c8 (ks ++ [m]).flatten = c8 ks.flatten ++ c8 m := by simp [c8]
    rw [e, List.length_append]
    exact ho'
end
set_option maxRecDepth 100000 in
set_option maxHeartbeats 4000000 in
theorem refcut_inner (l r : Tr) (d : Nat) (P : Nat → Bool) (ok : Ok d P (.nd l r)) (hlen : (Tr.nd l r).len ≤ 274877906 ) (v k : Value) (ks : List (List UInt8)) (hne : 0 < ks.length) (hsz : ks.length ≤ 1000000) (w : World) (hv : Ps w 0 w.heap.size v (Tr.nd l r).pairs) (hk : Hs w 0 w.heap.size k ks)
    (IH : ∀ (b : Bool) (v k : Value) (ks : List (List UInt8)) (w : World), ks.length ≤ 1000000 → Ps w 0 w.heap.size v (subT l r b).pairs → Hs w 0 w.heap.size k ks →
      Calls Try.prog 39 #[v, k, .int .i64 ((d : Int) + 1)] w fun e w' => ∃ u, e = .returned u ∧ By w' 0 w'.heap.size u ((subT l r b).cutB ks (d + 1)) ∧ Below w.heap.size w w')
    (hbl : ∀ i, (cutO l r ks d i).length ≤ 1099511627) (hbs : ∀ b, (cutS l r ks d b).length ≤ 1099511627) :
    Calls Try.prog 39 #[v, k, .int .i64 (d : Int)] w fun e w' => ∃ u, e = .returned u ∧ By w' 0 w'.heap.size u (Tr.cutB (.nd l r) ks d) ∧ Below w.heap.size w w' := by
  rw [cut_nd hne]
  have hd := ok.1
  have hl2 := ok.2.1
  have hsub1 := hv.sub
  have hsub2 := hk.row
  have hlok := hv.1
  have hkok := hk.1
  have HSP := Lib.hid (sub_pairs ok)
  have hplen : (Tr.nd l r).pairs.length = l.len + r.len := by rw [← Tr.len_pairs]; rfl
  simp only [Tr.len] at hlen
  obtain ⟨A, c, hv1, hc1, hc2⟩ := hv.form
  obtain ⟨A2, c2, hk1, hc3, hc4⟩ := hk.form
  generalize hL : (Tr.nd l r).pairs = L at *
  clear hL hv hk
  subst hv1 hk1
  have hne0 : ((L.length : Int) == 0) = false := by rw [beq_eq_false_iff_ne]; omega
  have hne1 : ((L.length : Int) == 1) = false := by rw [beq_eq_false_iff_ne]; omega
  have hnek : ((ks.length : Int) == 0) = false := by rw [beq_eq_false_iff_ne]; omega
  have hLm : L.length ≤ 274877906 := by omega
  clear hplen
  go_enter Try.func39, Try.ntmps39
  go_wp2_with fail
  obtain ⟨W0, hW0⟩ : ∃ x, x = w.alloc (Obj.cells #[.int .u8 2] 5) := ⟨_, rfl⟩
  rw [← hW0]
  have B0 : Below w.heap.size w W0 := by rw [hW0]; exact (Below.refl _ _).alloc (Nat.le_refl _) _
  have O0 : Own8 W0 w.heap.size (.slice (some ⟨w.heap.size, 0, none⟩) 1 1) [2] := by rw [hW0]; exact Own8.build w [2] (by simp)
  clear hW0
  have hbs0 := hbs
  have HBL := Lib.hid hbl
  have HBS := Lib.hid hbs
  clear hbl hbs hbs0
  go_loopw [9, 10] (fun b t wr => ∃ s : Nat, s ≤ 2 ∧ t = .int .i64 (s : Int) ∧ Own8 wr w.heap.size b (cutO l r ks d s) ∧ Below w.heap.size w wr) (fun _ t _ => 2 - (intOf t).toNat)
  case atStart => exact ⟨0, by omega, rfl, O0, B0⟩
  case round =>
    clear O0 B0
    obtain ⟨s, hs, rfl, O, B⟩ := hrel
    by_cases hlt : s < 2
    · obtain ⟨sb, hsb⟩ : ∃ sb, (s : Int) = bitInt sb := by
        have : s = 0 ∨ s = 1 := by omega
        rcases this with rfl | rfl
        · exact ⟨false, rfl⟩
        · exact ⟨true, rfl⟩
      have zB := B.size
      have HO := Lib.hid O
      clear O
      have HSB := Lib.hid hsb
      clear hsb
      have hslt : decide ((s : Int) < 2) = true := decide_eq_true (by omega)
      go_wp2_with fail
      obtain ⟨wo, rfl⟩ : ∃ x, x = wr := ⟨_, rfl⟩
      go_loopw [11, 52] (fun u t w2 => ∃ i : Nat, i ≤ L.length ∧ t = .int .i64 (i : Int) ∧ OwnP w2 wo.heap.size u (side sb d (L.take i)) ∧ Below wo.heap.size wo w2) (fun _ t _ => L.length - (intOf t).toNat)
      case atStart => exact ⟨0, by omega, rfl, OwnP.nil _ _, Below.refl _ _⟩
      case round =>
        obtain ⟨i, hi, rfl, O1, B1⟩ := hrel
        obtain ⟨w2, rfl⟩ : ∃ x, x = wr := ⟨_, rfl⟩
        by_cases hil : i < L.length
        · obtain ⟨q, hp⟩ : ∃ p, L[i]? = some p := ⟨_, List.getElem?_eq_getElem hil⟩
          have hqok : PrOk q := hlok q (List.mem_of_getElem? hp)
          have htk := take_step hp
          have hlen1 := side_len sb d (L.take i)
          have hml : (L.take i).length = i := by simp; omega
          rw [hml] at hlen1
          obtain ⟨g, o, c', hs1⟩ := hsub1
          rcases hs1 with ⟨hrow, _, hg, hA, _, _⟩ | hs1
          · injection hA with hA _ hA3
            subst hA hA3
            have hr := (hrow i q hp).1
            have hrw : rowAt w2 ⟨g, o + i * 64, none⟩ 64 = some (c8 (pb q)) := (rowAt_below ((B.trans (B1.mono zB))) hg).trans hr
            have Hnext : Hid (L.take (i + 1) = L.take i ++ [q]) := Lib.hid htk
            clear hrow hr hp htk hml
            generalize L.take i = m at *
            have hq1 := hqok.1
            have hq2 := hqok.2
            have hqlen := hqok.len
            obtain ⟨W, hW⟩ : ∃ y, y = putAt (w2.alloc (Obj.cells (c8 (z8 64)).toArray 36)) ⟨w2.heap.size, 0, none⟩ (c8 (pb q)) := ⟨_, rfl⟩
            have hBq : Below w2.heap.size w2 W := by rw [hW]; exact below_putAt ((Below.refl _ _).alloc (Nat.le_refl _) _) (Nat.le_refl _) _
            have Q1 : Bk W w2.heap.size 36 (c8 (pb q)) := by rw [hW]; exact Bk.fresh w2 _ (by simp [hqlen])
            have P1 := O1.below hBq (Nat.le_refl _)
            have BW := below_two B1 hBq B1.size
            have qk := pair_key Q1 hqok
            rw [hW] at qk
            clear hBq O1
            go_wp2_with fail
            rw [← hW]
            clear hW hrw qk
            refine (refbit_any q.1 d hq1 hd W).mono ?_
            rintro e w3 ⟨rfl, h3⟩
            have Q3 := Q1.below h3 Q1.lt
            have S3 := P1.below h3 (Nat.le_refl _)
            have B3 := below_two BW h3 BW.size
            have z3 : wo.heap.size ≤ w3.heap.size := B3.size
            have hqa := pair_all Q3 hqok
            clear h3 Q1 P1 BW B1
            obtain ⟨o1, co1, rfl, _, _⟩ := S3.form
            by_cases hbb : kbit q.1 d = sb
            · have hh : (bitInt (kbit q.1 d) == (s : Int)) = true := by rw [HSB.out, hbb]; simp
              have e1 := Lib.hid (side_yes (m := m) hbb)
              clear hbb
              go_wp2_with (at_builtin; refine appP rfl _ _ rfl rfl S3 q hqok _ rfl rfl rfl (by omega) z3 ?_; intro A4 c4 w4 hc41 hc42 hO4 hB4 hg4 hat4)
              go_roundw
              case rel => exact ⟨i + 1, by omega, by go_num, by rw [Hnext.out, e1.out]; exact hO4, B3.trans hB4⟩
              case measure => simp [intOf]; omega
            · have hbf : (kbit q.1 d == sb) = false := by simpa using hbb
              have hh : (bitInt (kbit q.1 d) == (s : Int)) = false := by rw [HSB.out]; cases hx : kbit q.1 d <;> cases sb <;> first | rfl | (rw [hx] at hbb; exact absurd rfl hbb)
              have e1 := Lib.hid (side_no' (m := m) hbf)
              clear hbb hbf
              go_wp2_with fail
              go_roundw
              case rel => exact ⟨i + 1, by omega, by go_num, by rw [Hnext.out, e1.out]; exact S3, B3⟩
              case measure => simp [intOf]; omega
          · subst hs1; simp at hil
        · obtain rfl : i = L.length := by omega
          rw [List.take_length, HSP.out sb] at O1
          have HO1 := Lib.hid O1
          clear O1
          go_wp2_with fail
          have z1 := B1.size
          go_loopw [12, 69] (fun u t w3 => ∃ i : Nat, i ≤ ks.length ∧ t = .int .i64 (i : Int) ∧ OwnK w3 w2.heap.size u (keysOf (ks.take i) d sb) ∧ Below w2.heap.size w2 w3) (fun _ t _ => ks.length - (intOf t).toNat)
          case atStart => exact ⟨0, by omega, rfl, OwnK.nil _ _, Below.refl _ _⟩
          case round =>
            obtain ⟨j, hj, rfl, O2, B2⟩ := hrel
            obtain ⟨w3, rfl⟩ : ∃ x, x = wr := ⟨_, rfl⟩
            by_cases hjl : j < ks.length
            · obtain ⟨kq, hp⟩ : ∃ p, ks[j]? = some p := ⟨_, List.getElem?_eq_getElem hjl⟩
              have hkq : kq.length = 32 := hkok kq (List.mem_of_getElem? hp)
              have htk := take_step hp
              have hlen1 : (keysOf (ks.take j) d sb).length ≤ j := by
                refine Nat.le_trans (List.length_filter_le _ _) ?_
                simp; omega
              obtain ⟨g, o, c', hs1⟩ := hsub2
              rcases hs1 with ⟨hrow, _, hg, hA, _, _⟩ | hs1
              · injection hA with hA _ hA3
                subst hA hA3
                have hr := hrow j kq hp
                have hrw : rowAt w3 ⟨g, o + j * 32, none⟩ 32 = some (c8 kq) := (rowAt_below ((B.trans (B1.mono zB)).trans (B2.mono (Nat.le_trans zB z1))) hg).trans hr
                have Hnext : Hid (ks.take (j + 1) = ks.take j ++ [kq]) := Lib.hid htk
                clear hrow hr hp htk
                generalize ks.take j = m at *
                obtain ⟨W, hW⟩ : ∃ y, y = putAt (w3.alloc (Obj.cells (c8 (z8 32)).toArray 25)) ⟨w3.heap.size, 0, none⟩ (c8 kq) := ⟨_, rfl⟩
                have hBq : Below w3.heap.size w3 W := by rw [hW]; exact below_putAt ((Below.refl _ _).alloc (Nat.le_refl _) _) (Nat.le_refl _) _
                have Q1 : Bk W w3.heap.size 25 (c8 kq) := by rw [hW]; exact Bk.fresh w3 _ (by simp [hkq])
                have P1 := O2.below hBq (Nat.le_refl _)
                have BW := below_two B2 hBq B2.size
                have qk : rowAt W ⟨w3.heap.size, 0, none⟩ 32 = some (c8 kq) := by have := Q1.rows; rwa [length_c8, hkq] at this
                rw [hW] at qk
                clear hBq O2
                go_wp2_with fail
                rw [← hW]
                clear hW hrw qk
                refine (refbit_any kq d hkq hd W).mono ?_
                rintro e w4 ⟨rfl, h3⟩
                have Q3 := Q1.below h3 Q1.lt
                have S3 := P1.below h3 (Nat.le_refl _)
                have B3 := below_two BW h3 BW.size
                have z3 : w2.heap.size ≤ w4.heap.size := B3.size
                have hqa : rowAt w4 ⟨w3.heap.size, 0, none⟩ 32 = some (c8 kq) := by have := Q3.rows; rwa [length_c8, hkq] at this
                clear h3 Q1 P1 BW B2
                obtain ⟨o1, co1, rfl, _, _⟩ := S3.form
                by_cases hbb : kbit kq d = sb
                · have hh : (bitInt (kbit kq d) == (s : Int)) = true := by rw [HSB.out, hbb]; simp
                  have e1 := Lib.hid (keys_yes (ks := m) hbb)
                  clear hbb
                  go_wp2_with (at_builtin; refine appK rfl _ _ rfl rfl S3 kq hkq _ rfl rfl rfl (by omega) z3 ?_; intro A5 c5 w5 hO5 hB5)
                  go_roundw
                  case rel => exact ⟨j + 1, by omega, by go_num, by rw [Hnext.out, e1.out]; exact hO5, B3.trans hB5⟩
                  case measure => simp [intOf]; omega
                · have hbf : (kbit kq d == sb) = false := by simpa using hbb
                  have hh : (bitInt (kbit kq d) == (s : Int)) = false := by rw [HSB.out]; cases hx : kbit kq d <;> cases sb <;> first | rfl | (rw [hx] at hbb; exact absurd rfl hbb)
                  have e1 := Lib.hid (keys_no (ks := m) hbf)
                  clear hbb hbf
                  go_wp2_with fail
                  go_roundw
                  case rel => exact ⟨j + 1, by omega, by go_num, by rw [Hnext.out, e1.out]; exact S3, B3⟩
                  case measure => simp [intOf]; omega
              · subst hs1; simp at hjl
            · obtain rfl : j = ks.length := by omega
              rw [List.take_length] at O2
              have z2 := B2.size
              have hPs := (HO1.out.ps.less (Nat.zero_le _)).below B2
              have hHs := O2.hs.less (Nat.zero_le _)
              have hlk : (keysOf ks d sb).length ≤ 1000000 := Nat.le_trans (List.length_filter_le _ _) hsz
              have HC := Lib.hid (IH sb _ _ _ w3 hlk (hPs.more z2) hHs)
              have hBo : Below wo.heap.size wo w3 := B1.trans (B2.mono z1)
              have HO3 := Lib.hid (HO.out.below hBo (Nat.le_refl _))
              have B3 := B.trans (hBo.mono zB)
              clear hPs hHs O2 IH
              go_wp2_with fail
              refine HC.out.mono ?_
              rintro e w5 ⟨u5, rfl, hY5, hb5⟩
              clear HC
              have hO5 := HO3.out.below hb5 (Nat.le_refl _)
              have B5 := below_two B3 hb5 B3.size
              have zz5 := B5.size
              have hbl := HBL.out s
              have hbs := HBS.out sb
              change By w5 0 w5.heap.size u5 (cutS l r ks d sb) at hY5
              have hcut : cutO l r ks d (s + 1) = cutO l r ks d s ++ cutS l r ks d sb := by
                have : s = 0 ∨ s = 1 := by omega
                rcases this with rfl | rfl
                · have : sb = false := by have := HSB.out; cases sb <;> first | rfl | cases this
                  subst this; rfl
                · have : sb = true := by have := HSB.out; cases sb <;> first | rfl | cases this
                  subst this; rfl
              have HCUT := Lib.hid hcut
              clear hcut
              generalize cutS l r ks d sb = bs at *
              generalize hcs : cutO l r ks d s = bo at *
              clear hcs
              go_wp2_with (at_builtin; refine app8 _ w.heap.size _ _ rfl _ _ rfl rfl hO5 _ rfl bs 0 _ hY5 (by omega) zz5 ?_; intro A6 c6 w6 hc61 hc62 hO6 hB6 hg6 ha6; obtain ⟨u6, hu6⟩ : ∃ u, u = Value.slice A6 (bo ++ bs).length c6 := ⟨_, rfl⟩; rw [← hu6] at hO6 ha6 ⊢; clear hu6 hc61 hc62)
              go_roundw
              case rel => exact ⟨s + 1, by omega, by go_num, by rw [HCUT.out]; exact hO6, B5.trans hB6⟩
              case measure => simp [intOf]; omega
    · obtain rfl : s = 2 := by omega
      go_wp2_with fail
      go_ret
      exact ⟨_, rfl, (O.by_).less (Nat.zero_le _), B⟩
theorem cutB_size {t : Tr} {d : Nat} {P : Nat → Bool} (ok : Ok d P t) (hd : d ≤ 256) (ks : List (List UInt8)) : (t.cutB ks d).length ≤ 33 + t.len * 4417 := by
  have h := View.size (view_cut t ks d) ok hd
  have h2 : t.len * (65 + 17 * (256 - d)) ≤ t.len * 4417 := Nat.mul_le_mul_left _ (by omega)
  unfold Tr.cutB
  omega
theorem refcut_any : ∀ (t : Tr) (d : Nat) (P : Nat → Bool), Ok d P t → d ≤ 256 → t.len ≤ 200000 → ∀ (v k : Value) (ks : List (List UInt8)) (w : World), ks.length ≤ 1000000 → Ps w 0 w.heap.size v t.pairs → Hs w 0 w.heap.size k ks →
    Calls Try.prog 39 #[v, k, .int .i64 (d : Int)] w fun e w' => ∃ u, e = .returned u ∧ By w' 0 w'.heap.size u (t.cutB ks d) ∧ Below w.heap.size w w' := by
  intro t
  induction t with
  | e => intro d P ok hd hl v k ks w hks hv hk; exact refcut_nil d v k ks w hv
  | lf kk x =>
    intro d P ok hd hl v k ks w hks hv hk
    cases ks with
    | nil => exact refcut_hidden (.lf kk x) (by simp [Tr.len]) (by simp [Tr.len]) d P ok hd v k w hv hk
    | cons a ks => exact refcut_leaf kk x d P ok v k (a :: ks) (by simp) w hv hk
  | nd l r ihl ihr =>
    intro d P ok hd hl v k ks w hks hv hk
    have hd2 := ok.1
    have hl2 := ok.2.1
    simp only [Tr.len] at hl
    cases ks with
    | nil => exact refcut_hidden (.nd l r) (by simp only [Tr.len]; omega) (by simp only [Tr.len]; omega) d P ok hd v k w hv hk
    | cons a ks =>
      have hs := cutB_size ok hd (a :: ks)
      rw [cut_nd (by simp)] at hs
      simp only [Tr.len] at hs
      simp only [cutO, List.length_append, List.length_cons, List.length_nil] at hs
      have hb : ∀ b, (cutS l r (a :: ks) d b).length ≤ 1099511627 := fun b => by cases b <;> omega
      refine refcut_inner l r d P ok (by simp only [Tr.len]; omega) v k (a :: ks) (by simp) hks w hv hk (fun b v k ks w hks hv hk => ?_) (fun i => ?_) hb
      · have e : ((d : Int) + 1) = ((d + 1 : Nat) : Int) := by omega
        rw [e]
        cases b
        · exact ihl (d + 1) _ ok.2.2.1 (by omega) (by omega) v k ks w hks hv hk
        · exact ihr (d + 1) _ ok.2.2.2 (by omega) (by omega) v k ks w hks hv hk
      · match i with
        | 0 => simp [cutO]
        | 1 => simp only [cutO, List.length_append, List.length_cons, List.length_nil]; omega
        | i + 2 => simp only [cutO, List.length_append, List.length_cons, List.length_nil]; omega
end Go.Proofs.Ytpalomkcgfalnaa
