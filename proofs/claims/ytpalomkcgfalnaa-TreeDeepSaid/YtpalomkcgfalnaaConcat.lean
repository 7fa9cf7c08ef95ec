/- slices.Grow of nil, slices.Concat of byte slices, and sha's padded. -/
import Derived.Test.YtpalomkcgfalnaaBytes
import Derived.Test.YtpalomkcgfalnaaConsts
import Derived.WalkKit
import Derived.WalkLawsBesides
import Derived.Outline
import Derived.Lib.Hide
set_option linter.unusedVariables false
set_option linter.unusedSimpArgs false
namespace Go.Proofs.Ytpalomkcgfalnaa
open Go Go.RowKit Sh
/-- A slice of byte slices reads as these lists. -/
def Parts (w : World) (B : Nat) (v : Value) (ls : List (List UInt8)) : Prop :=
  ∃ vs : List Value, Sl w 0 B v vs ∧ vs.length = ls.length ∧ ∀ (i : Nat) (x : Value) (l : List UInt8), vs[i]? = some x → ls[i]? = some l → By w 0 B x l
theorem Parts.below {w w' : World} {B : Nat} {v : Value} {ls : List (List UInt8)} (h : Parts w B v ls) (hb : Below B w w') : Parts w' B v ls :=
  let ⟨vs, h1, h2, h3⟩ := h; ⟨vs, h1.below hb, h2, fun i x l hx hl => (h3 i x l hx hl).below hb⟩
theorem Parts.more {w : World} {B B' : Nat} {v : Value} {ls : List (List UInt8)} (h : Parts w B v ls) (hB : B ≤ B') : Parts w B' v ls :=
  let ⟨vs, h1, h2, h3⟩ := h; ⟨vs, h1.more hB, h2, fun i x l hx hl => (h3 i x l hx hl).more hB⟩

set_option maxHeartbeats 1000000 in
theorem grow_nil (n : Nat) (hn : n ≤ 35184372088832) (w : World) :
    Calls Try.prog 85 #[.slice none 0 0, .int .i64 n] w fun e w' => ∃ v, e = .returned v ∧ Own8 w' w.heap.size v [] ∧ Below w.heap.size w w' := by
  by_cases h0 : n = 0
  · subst h0
    go_enter Try.func85, Try.ntmps85
    go_wp2
    go_ret
    exact ⟨_, rfl, Own8.nil _ _, Below.refl _ _⟩
  · have hp : (0 : Int) < (n : Int) := by omega
    go_enter Try.func85, Try.ntmps85
    go_wp2_with (at_builtin; refine app8_zeros _ w.heap.size (.slice none 0 0) [] rfl _ _ rfl rfl (Own8.nil _ _) n .i64 rfl (by simp; omega) (Nat.le_refl _) ?_; intro A c w1 hc1 hc2 ho1 hb1)
    go_ret
    exact ⟨_, rfl, by simpa using ho1.take (k := 0) (Nat.zero_le _), hb1⟩

/-- The k-th list; the first k of them joined. Names that no simp set opens. -/
def gl (ls : List (List UInt8)) (k : Nat) : List UInt8 := ls.getD k []
def cat (ls : List (List UInt8)) (k : Nat) : List UInt8 := (ls.take k).flatten
theorem Parts.at_ {w : World} {B : Nat} {vs : List Value} {ls : List (List UInt8)} {k : Nat} (h2 : vs.length = ls.length) (h3 : ∀ (i : Nat) (x : Value) (l : List UInt8), vs[i]? = some x → ls[i]? = some l → By w 0 B x l) (hk : k < ls.length) :
    ∃ A c, vs[k]? = some (.slice A (gl ls k).length c) ∧ (gl ls k).length ≤ c ∧ c ≤ 9223372036854775807 ∧ By w 0 B (.slice A (gl ls k).length c) (gl ls k) := by
  have hv : vs[k]? = some vs[k] := List.getElem?_eq_getElem (by omega)
  have hl : ls[k]? = some (gl ls k) := by unfold gl; rw [List.getElem?_eq_getElem hk]; simp [hk]
  have hb := h3 k _ _ hv hl
  obtain ⟨A, c, e, h4, h5, _⟩ := hb.open_
  exact ⟨A, c, by rw [hv, e], h4, h5, e ▸ hb⟩
theorem cat_step (ls : List (List UInt8)) (k : Nat) (hk : k < ls.length) : cat ls (k + 1) = cat ls k ++ gl ls k := by
  unfold cat gl
  rw [List.take_add_one, List.flatten_append]
  simp [hk]
theorem cat_le (ls : List (List UInt8)) (k : Nat) : (cat ls k).length ≤ ls.flatten.length := by
  have : ls.flatten = cat ls k ++ (ls.drop k).flatten := by unfold cat; rw [← List.flatten_append, List.take_append_drop]
  rw [this, List.length_append]
  omega
theorem cat_all (ls : List (List UInt8)) : cat ls ls.length = ls.flatten := by unfold cat; rw [List.take_length]

set_option maxHeartbeats 2000000 in
theorem concat_any (v : Value) (ls : List (List UInt8)) (w : World) (hp : Parts w w.heap.size v ls) (hsz : ls.flatten.length ≤ 17592186044416) :
    Calls Try.prog 72 #[v] w fun e w' => ∃ u, e = .returned u ∧ Own8 w' w.heap.size u ls.flatten ∧ Below w.heap.size w w' := by
  obtain ⟨vs, ⟨A, c, rfl, hc, hcm, hrd⟩, hvl, hel⟩ := hp
  have hvm : vs.length ≤ 9223372036854775807 := by unfold maxLen at hcm; omega
  rw [hvl] at hvm hc
  rw [hvl]
  go_enter Try.func72, Try.ntmps72
  go_wp2_with fail
  go_loop [3, 11] (fun s i => ∃ k : Nat, k ≤ ls.length ∧ i = .int .i64 k ∧ s = .int .i64 ((cat ls k).length)) (fun _ i => ls.length - (intOf i).toNat)
  case atStart => exact ⟨0, Nat.zero_le _, rfl, rfl⟩
  case round =>
    obtain ⟨k, hk, rfl, rfl⟩ := hrel
    by_cases hlt : k < ls.length
    · obtain ⟨g, o, rfl, _, hg, hcell⟩ := hrd.some (by omega)
      obtain ⟨Ak, ck, hx, _, _, _⟩ := Parts.at_ hvl hel hlt
      have hcx := hcell k _ hx
      have hfs := cat_step ls k hlt
      have hfl := cat_le ls (k + 1)
      rw [hfs, List.length_append] at hfl
      have HF := Lib.hid hfs
      clear hfs hx hcell hel hrd
      have hnn : (0 : Int) ≤ (((cat ls k).length : Nat) : Int) + ((gl ls k).length : Nat) := by omega
      go_wp2_with fail
      go_round
      case rel => exact ⟨k + 1, by omega, by go_num, by rw [HF.out, List.length_append]; go_num⟩
      case measure => simp [intOf]; omega
    · obtain rfl : k = ls.length := by omega
      have hfl := cat_le ls ls.length
      go_wp2_with fail
      refine (grow_nil (cat ls ls.length).length (by omega) _).mono ?_
      rintro e w1 ⟨u, rfl, ho, hb⟩
      go_wp2_with fail
      go_loopw [6, 27] (fun u i wr => ∃ k : Nat, k ≤ ls.length ∧ i = .int .i64 k ∧ Own8 wr w.heap.size u (cat ls k) ∧ Below w.heap.size w wr) (fun _ i _ => ls.length - (intOf i).toNat)
      case atStart => exact ⟨0, Nat.zero_le _, rfl, ho, hb⟩
      case round =>
        clear ho hb
        obtain ⟨k, hk, rfl, ho, hb⟩ := hrel
        by_cases hlt : k < ls.length
        · obtain ⟨g, o, rfl, _, hg, hcell⟩ := hrd.some (by omega)
          obtain ⟨Ak, ck, hx, hk1, hk2, hby⟩ := Parts.at_ hvl hel hlt
          have hcx : wr.cell? ⟨g, o + k, none⟩ = _ := (hb.cell (by exact hg)).trans (hcell k _ hx)
          have hfs := cat_step ls k hlt
          have hfl := cat_le ls (k + 1)
          rw [hfs, List.length_append] at hfl
          have HF := Lib.hid hfs
          have hby' := hby.below hb
          clear hfs hx hcell hel hrd hby
          go_wp2_with (at_builtin; refine app8 _ w.heap.size _ _ rfl _ _ rfl rfl ho _ rfl (gl ls k) 0 w.heap.size hby' (by omega) hb.size ?_; intro A2 c2 w2 hc1 hc2 ho2 hb2 hg2 hat2)
          go_roundw
          case rel => exact ⟨k + 1, by omega, by go_num, by rw [List.length_append] at ho2; rw [HF.out]; exact ho2, hb.trans hb2⟩
          case measure => simp [intOf]; omega
        · obtain rfl : k = ls.length := by omega
          have ca := Lib.hid (cat_all ls)
          go_wp2_with fail
          go_ret
          exact ⟨_, rfl, by rw [← ca.out]; exact ho, hb⟩

/-- The message with its one bit and so many noughts. -/
def pz (m : List UInt8) (j : Nat) : List UInt8 := m ++ [128] ++ List.replicate j 0
theorem length_pz (m : List UInt8) (j : Nat) : (pz m j).length = m.length + 1 + j := by simp [pz]; omega
theorem pz_zero (m : List UInt8) : pz m 0 = m ++ [128] := by simp [pz]
theorem pz_step (m : List UInt8) (j : Nat) : pz m (j + 1) = pz m j ++ [0] := by simp [pz, List.replicate_succ']
/-- .. and so many of the length's bytes. -/
def ps (P : List UInt8) (N : UInt64) (j : Nat) : List UInt8 := P ++ (be64 N).take j
theorem length_ps (P : List UInt8) (N : UInt64) (j : Nat) (hj : j ≤ 8) : (ps P N j).length = P.length + j := by
  have : (be64 N).length = 8 := rfl
  simp [ps, this]; omega
theorem ps_step (P : List UInt8) (N : UInt64) (j : Nat) (b : UInt8) (hb : (be64 N)[j]? = some b) : ps P N j ++ [b] = ps P N (j + 1) := by
  unfold ps
  rw [List.take_add_one, hb]
  simp
theorem ps_rel {w : World} {base : Nat} {A : Option Addr} {c j : Nat} {P : List UInt8} {N : UInt64} {b : UInt8} (hj : j < 8) (hb : (be64 N)[j]? = some b) (hd1 : (ps P N j ++ [b]).length ≤ c) (hd2 : c ≤ 9223372036854775807)
    (ho : Own8 w base (.slice A (ps P N j ++ [b]).length c) (ps P N j ++ [b])) :
    Value.slice A ((ps P N j).length + 1) c = .slice A (P.length + (j + 1)) c ∧ P.length + (j + 1) ≤ c ∧ c ≤ 9223372036854775807 ∧ Own8 w base (.slice A (P.length + (j + 1)) c) (ps P N (j + 1)) := by
  have h1 := length_ps P N j (by omega)
  have h2 := length_ps P N (j + 1) (by omega)
  rw [ps_step P N j b hb, h2] at hd1 ho
  exact ⟨by rw [h1, Nat.add_assoc], hd1, hd2, ho⟩
def lenV : Value → Nat | .slice _ n _ => n | _ => 0
set_option maxHeartbeats 8000000 in
theorem padded_64 (v : Value) (ls : List (List UInt8)) (w : World) (hp : Parts w w.heap.size v ls) (hsz : ls.flatten.length ≤ 1099511627776) :
    Calls Try.prog 50 #[v, .int .i64 64] w fun e w' => ∃ u, e = .returned u ∧ By w' w.heap.size w'.heap.size u (pad 64 ls.flatten) ∧ Below w.heap.size w w' := by
    go_enter Try.func50, Try.ntmps50
    go_wp2_with fail
    refine (concat_any v ls w hp (by omega)).mono ?_
    rintro e w1 ⟨u, rfl, ho, hb⟩
    have hn := hsz
    generalize hm : ls.flatten = m at *
    have Hm := Lib.hid hm
    clear hm hp hsz
    obtain ⟨A, c, rfl, hc, hcm⟩ := ho.form
    have hpad : pad 64 m = pz m (zeros 64 m.length) ++ List.replicate 0 0 ++ be64 (8 * UInt64.ofNat m.length) := rfl
    have Hpad := Lib.hid hpad
    clear hpad
    generalize hml : m.length = n at *
    have hw : IntKind.u64.wrap (n : Int) = n64 (UInt64.ofNat n) := by
      rw [wrapN64]; unfold n64; simp
    have Hml := Lib.hid hml
    clear hml
    go_wp2_with (at_builtin; refine app8_one _ w.heap.size _ m rfl _ _ rfl rfl ho 128 128 rfl rfl (by rw [Hml.out]; omega) hb.size ?_; intro A2 c2 w2 hc1 hc2 ho2 hb2)
    have hb2' := hb.trans hb2
    rw [← pz_zero] at ho2
    clear ho hb hb2 hc hcm
    generalize hz : zeros 64 n = z at *
    have hz1 : z = (64 - (n + 1 + 8) % 64) % 64 := by rw [← hz]; rfl
    have Hz1 := Lib.hid hz1
    have hzl : z < 64 := by omega
    clear hz hz1
    go_loopw [5] (fun b wr => ∃ (j : Nat) (A : Option Addr) (c : Nat), j ≤ z ∧ b = .slice A (n + 1 + j) c ∧ n + 1 + j ≤ c ∧ c ≤ 9223372036854775807 ∧ Own8 wr w.heap.size (.slice A (n + 1 + j) c) (pz m j) ∧ Below w.heap.size w wr) (fun b _ => n + 1 + z - lenV b)
    case atStart => exact ⟨0, A2, c2, Nat.zero_le _, by simp [Hml.out], by simpa [Hml.out] using hc1, hc2, by simpa [length_pz, Hml.out, pz] using ho2, hb2'⟩
    case round =>
      clear ho2 hb2' hc1 hc2
      obtain ⟨j, A, c, hj, rfl, hc1, hc2, ho, hb⟩ := hrel
      by_cases hlt : j < z
      · have hne : ((n : Int) + 1 + j + 8) % 64 ≠ 0 := by have := Hz1.out; omega
        go_wp2_with (at_builtin; refine app8_one _ w.heap.size _ (pz m j) rfl _ _ rfl rfl ho 0 0 rfl rfl (by rw [length_pz, Hml.out]; omega) hb.size ?_; intro A2 c2 w2 hd1 hd2 ho2 hb2)
        have he : (pz m j ++ [0]).length = n + 1 + (j + 1) := by rw [← pz_step, length_pz, Hml.out]
        rw [he] at hd1 ho2
        rw [← pz_step] at ho2
        go_roundw
        case rel => exact ⟨j + 1, A2, c2, by omega, by rw [show (pz m j).length + 1 = n + 1 + (j + 1) from by rw [length_pz, Hml.out]; omega], hd1, hd2, ho2, hb.trans hb2⟩
        case measure => simp [lenV, length_pz, Hml.out]; omega
      · obtain rfl : j = z := by omega
        have hne : ((n : Int) + 1 + j + 8) % 64 = 0 := by have := Hz1.out; omega
        go_wp2_with (at_builtin; refine app8_zeros _ w.heap.size _ (pz m j) rfl _ _ rfl rfl ho 0 .i64 rfl (by rw [length_pz, Hml.out]; omega) hb.size ?_; intro A2 c2 w2 hd1 hd2 ho2 hb2)
        have hb3 := hb.trans hb2
        generalize hP : pz m j ++ List.replicate 0 0 = P at *
        have hPl : P.length = n + 1 + j + 0 := by rw [← hP]; simp [length_pz, Hml.out]
        have HP := Lib.hid hP
        have HPl := Lib.hid hPl
        clear hP hPl ho hb hb2 hne hlt hc1 hc2
        go_wp2_with fail
        go_loopw [5, 7] (fun b i wr => ∃ (j : Nat) (A : Option Addr) (c : Nat), j ≤ 8 ∧ i = .int .i64 (56 - 8 * (j : Int)) ∧ (b = .slice A (P.length + j) c ∧ P.length + j ≤ c ∧ c ≤ 9223372036854775807 ∧ Own8 wr w.heap.size (.slice A (P.length + j) c) (ps P (8 * UInt64.ofNat n) j)) ∧ Below w.heap.size w wr) (fun b i _ => (intOf i + 8).toNat)
        case atStart => exact ⟨0, A2, c2, by omega, rfl, ⟨by simp [HPl.out, length_pz, Hml.out], by simpa [HPl.out] using hd1, hd2, by simpa [HPl.out, ps] using ho2⟩, hb3⟩
        case round =>
          clear ho2 hb3 hd1 hd2
          obtain ⟨j, A, c, hj, rfl, ⟨rfl, hc1, hc2, ho⟩, hb⟩ := hrel
          have hPn := HPl.out
          have hql : P.length + j ≤ 35184372088832 := by omega
          have hP1 : P.length ≤ 1099511627976 := by omega
          have HPn := Lib.hid hPn
          clear hPn
          by_cases hlt : j < 8
          · have hj8 : j = 0 ∨ j = 1 ∨ j = 2 ∨ j = 3 ∨ j = 4 ∨ j = 5 ∨ j = 6 ∨ j = 7 := by omega
            have hl := length_ps P (8 * UInt64.ofNat n) j hj
            have hqq : (ps P (8 * UInt64.ofNat n) j).length ≤ 35184372088832 := by omega
            clear hl hql
            rcases hj8 with rfl | rfl | rfl | rfl | rfl | rfl | rfl | rfl
            all_goals
              go_wp2_with (at_builtin; refine app8_one _ w.heap.size _ (ps P (8 * UInt64.ofNat n) _) rfl _ _ rfl rfl ho _ _ rfl rfl hqq hb.size ?_; intro A2 c2 w2 hd1 hd2 ho2 hb2)
              have R := ps_rel (by omega) (by simp [be64]) hd1 hd2 ho2
              go_roundw
              case rel => exact ⟨_, A2, c2, by omega, by go_num, R, hb.trans hb2⟩
              case measure => simp [intOf]
          · obtain rfl : j = 8 := by omega
            have e : pad 64 m = ps P (8 * UInt64.ofNat n) 8 := by rw [Hpad.out]; rfl
            have he := Lib.hid e
            clear e
            go_wp2_with fail
            go_ret
            exact ⟨_, rfl, by rw [Hm.out, Hid.out he]; exact Own8.by_ ho, hb⟩
set_option maxHeartbeats 8000000 in
theorem padded_128 (v : Value) (ls : List (List UInt8)) (w : World) (hp : Parts w w.heap.size v ls) (hsz : ls.flatten.length ≤ 1099511627776) :
    Calls Try.prog 50 #[v, .int .i64 128] w fun e w' => ∃ u, e = .returned u ∧ By w' w.heap.size w'.heap.size u (pad 128 ls.flatten) ∧ Below w.heap.size w w' := by
    go_enter Try.func50, Try.ntmps50
    go_wp2_with fail
    refine (concat_any v ls w hp (by omega)).mono ?_
    rintro e w1 ⟨u, rfl, ho, hb⟩
    have hn := hsz
    generalize hm : ls.flatten = m at *
    have Hm := Lib.hid hm
    clear hm hp hsz
    obtain ⟨A, c, rfl, hc, hcm⟩ := ho.form
    have hpad : pad 128 m = pz m (zeros 128 m.length) ++ List.replicate 8 0 ++ be64 (8 * UInt64.ofNat m.length) := rfl
    have Hpad := Lib.hid hpad
    clear hpad
    generalize hml : m.length = n at *
    have hw : IntKind.u64.wrap (n : Int) = n64 (UInt64.ofNat n) := by
      rw [wrapN64]; unfold n64; simp
    have Hml := Lib.hid hml
    clear hml
    go_wp2_with (at_builtin; refine app8_one _ w.heap.size _ m rfl _ _ rfl rfl ho 128 128 rfl rfl (by rw [Hml.out]; omega) hb.size ?_; intro A2 c2 w2 hc1 hc2 ho2 hb2)
    have hb2' := hb.trans hb2
    rw [← pz_zero] at ho2
    clear ho hb hb2 hc hcm
    generalize hz : zeros 128 n = z at *
    have hz1 : z = (128 - (n + 1 + 16) % 128) % 128 := by rw [← hz]; rfl
    have Hz1 := Lib.hid hz1
    have hzl : z < 128 := by omega
    clear hz hz1
    go_loopw [5] (fun b wr => ∃ (j : Nat) (A : Option Addr) (c : Nat), j ≤ z ∧ b = .slice A (n + 1 + j) c ∧ n + 1 + j ≤ c ∧ c ≤ 9223372036854775807 ∧ Own8 wr w.heap.size (.slice A (n + 1 + j) c) (pz m j) ∧ Below w.heap.size w wr) (fun b _ => n + 1 + z - lenV b)
    case atStart => exact ⟨0, A2, c2, Nat.zero_le _, by simp [Hml.out], by simpa [Hml.out] using hc1, hc2, by simpa [length_pz, Hml.out, pz] using ho2, hb2'⟩
    case round =>
      clear ho2 hb2' hc1 hc2
      obtain ⟨j, A, c, hj, rfl, hc1, hc2, ho, hb⟩ := hrel
      by_cases hlt : j < z
      · have hne : ((n : Int) + 1 + j + 16) % 128 ≠ 0 := by have := Hz1.out; omega
        go_wp2_with (at_builtin; refine app8_one _ w.heap.size _ (pz m j) rfl _ _ rfl rfl ho 0 0 rfl rfl (by rw [length_pz, Hml.out]; omega) hb.size ?_; intro A2 c2 w2 hd1 hd2 ho2 hb2)
        have he : (pz m j ++ [0]).length = n + 1 + (j + 1) := by rw [← pz_step, length_pz, Hml.out]
        rw [he] at hd1 ho2
        rw [← pz_step] at ho2
        go_roundw
        case rel => exact ⟨j + 1, A2, c2, by omega, by rw [show (pz m j).length + 1 = n + 1 + (j + 1) from by rw [length_pz, Hml.out]; omega], hd1, hd2, ho2, hb.trans hb2⟩
        case measure => simp [lenV, length_pz, Hml.out]; omega
      · obtain rfl : j = z := by omega
        have hne : ((n : Int) + 1 + j + 16) % 128 = 0 := by have := Hz1.out; omega
        go_wp2_with (at_builtin; refine app8_zeros _ w.heap.size _ (pz m j) rfl _ _ rfl rfl ho 8 .i64 rfl (by rw [length_pz, Hml.out]; omega) hb.size ?_; intro A2 c2 w2 hd1 hd2 ho2 hb2)
        have hb3 := hb.trans hb2
        generalize hP : pz m j ++ List.replicate 8 0 = P at *
        have hPl : P.length = n + 1 + j + 8 := by rw [← hP]; simp [length_pz, Hml.out]
        have HP := Lib.hid hP
        have HPl := Lib.hid hPl
        clear hP hPl ho hb hb2 hne hlt hc1 hc2
        go_wp2_with fail
        go_loopw [5, 7] (fun b i wr => ∃ (j : Nat) (A : Option Addr) (c : Nat), j ≤ 8 ∧ i = .int .i64 (56 - 8 * (j : Int)) ∧ (b = .slice A (P.length + j) c ∧ P.length + j ≤ c ∧ c ≤ 9223372036854775807 ∧ Own8 wr w.heap.size (.slice A (P.length + j) c) (ps P (8 * UInt64.ofNat n) j)) ∧ Below w.heap.size w wr) (fun b i _ => (intOf i + 8).toNat)
        case atStart => exact ⟨0, A2, c2, by omega, rfl, ⟨by simp [HPl.out, length_pz, Hml.out], by simpa [HPl.out] using hd1, hd2, by simpa [HPl.out, ps] using ho2⟩, hb3⟩
        case round =>
          clear ho2 hb3 hd1 hd2
          obtain ⟨j, A, c, hj, rfl, ⟨rfl, hc1, hc2, ho⟩, hb⟩ := hrel
          have hPn := HPl.out
          have hql : P.length + j ≤ 35184372088832 := by omega
          have hP1 : P.length ≤ 1099511627976 := by omega
          have HPn := Lib.hid hPn
          clear hPn
          by_cases hlt : j < 8
          · have hj8 : j = 0 ∨ j = 1 ∨ j = 2 ∨ j = 3 ∨ j = 4 ∨ j = 5 ∨ j = 6 ∨ j = 7 := by omega
            have hl := length_ps P (8 * UInt64.ofNat n) j hj
            have hqq : (ps P (8 * UInt64.ofNat n) j).length ≤ 35184372088832 := by omega
            clear hl hql
            rcases hj8 with rfl | rfl | rfl | rfl | rfl | rfl | rfl | rfl
            all_goals
              go_wp2_with (at_builtin; refine app8_one _ w.heap.size _ (ps P (8 * UInt64.ofNat n) _) rfl _ _ rfl rfl ho _ _ rfl rfl hqq hb.size ?_; intro A2 c2 w2 hd1 hd2 ho2 hb2)
              have R := ps_rel (by omega) (by simp [be64]) hd1 hd2 ho2
              go_roundw
              case rel => exact ⟨_, A2, c2, by omega, by go_num, R, hb.trans hb2⟩
              case measure => simp [intOf]
          · obtain rfl : j = 8 := by omega
            have e : pad 128 m = ps P (8 * UInt64.ofNat n) 8 := by rw [Hpad.out]; rfl
            have he := Lib.hid e
            clear e
            go_wp2_with fail
            go_ret
            exact ⟨_, rfl, by rw [Hm.out, Hid.out he]; exact Own8.by_ ho, hb⟩
theorem padded_any (block : Nat) (hbl : block = 64 ∨ block = 128) (v : Value) (ls : List (List UInt8)) (w : World) (hp : Parts w w.heap.size v ls) (hsz : ls.flatten.length ≤ 1099511627776) :
    Calls Try.prog 50 #[v, .int .i64 block] w fun e w' => ∃ u, e = .returned u ∧ By w' w.heap.size w'.heap.size u (pad block ls.flatten) ∧ Below w.heap.size w w' := by
  rcases hbl with rfl | rfl
  · exact padded_64 v ls w hp hsz
  · exact padded_128 v ls w hp hsz
end Go.Proofs.Ytpalomkcgfalnaa
