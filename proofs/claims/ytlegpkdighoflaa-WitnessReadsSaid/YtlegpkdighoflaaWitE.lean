/- slices.IndexFunc, DeleteFunc and Clone of hashes. -/
import Derived.Test.YtlegpkdighoflaaWitP
import Derived.Test.YtlegpkdighoflaaOwnR
set_option linter.unusedVariables false
set_option linter.unusedSimpArgs false
namespace Go.Proofs.Ytlegpkdighoflaa
open Go Go.RowKit Sh
/-- Block g holds these hashes, and then whatever. -/
def RH (w : World) (g : Nat) (L : List (List UInt8)) (tl : List Value) : Prop := (∀ k ∈ L, k.length = 32) ∧ Bk w g 24 (c8 L.flatten ++ tl)
section
variable {w w' : World} {g : Nat} {L : List (List UInt8)} {tl : List Value}
theorem RH.lt (h : RH w g L tl) : g < w.heap.size := h.2.lt
theorem RH.below {B : Nat} (h : RH w g L tl) (hb : Below B w w') (hg : g < B) : RH w' g L tl := ⟨h.1, h.2.below hb hg⟩
theorem RH.alloc (h : RH w g L tl) (o : Obj) : RH (w.alloc o) g L tl := ⟨h.1, h.2.alloc o⟩
theorem RH.far (h : RH w g L tl) {p : Addr} (hp : g ≠ p.block) (vs : List Value) : RH (putAt w p vs) g L tl := ⟨h.1, h.2.putFar hp vs⟩
theorem RH.row (h : RH w g L tl) {i : Nat} {k : List UInt8} (hk : L[i]? = some k) : rowAt w ⟨g, i * 32, none⟩ 32 = some (c8 k) := by
  have hi : i < L.length := (List.getElem?_eq_some_iff.1 hk).1
  have hl := length_hflat h.1
  rw [h.2.row (by simp [hl]; omega)]
  congr 1
  have hat := hflat_at h.1 hk
  rw [List.drop_append_of_le_length (by simp [hl]; omega), List.take_append_of_le_length (by simp [hl]; omega)]
  rw [← hat]
  simp [c8, List.map_drop, List.map_take]
theorem RH.can (h : RH w g L tl) {i : Nat} (hi : i < L.length) : canAt w ⟨g, i * 32, none⟩ 32 = true := h.2.can (by simp [length_hflat h.1]; omega)
theorem RH.can_to (h : RH w g L tl) {i n : Nat} (hi : i + n ≤ L.length) : canAt w ⟨g, i * 32, none⟩ (n * 32) = true := h.2.can (by simp [length_hflat h.1]; omega)
theorem hflat_set : ∀ {L : List (List UInt8)} (_ : ∀ k ∈ L, k.length = 32) {i : Nat} (x : List UInt8), x.length = 32 → i < L.length → L.flatten.take (i * 32) ++ x ++ L.flatten.drop (i * 32 + 32) = (L.set i x).flatten := by
  intro L
  induction L with
  | nil => intro _ i x _ hi; simp at hi
  | cons q L ih =>
    intro h i x hx hi
    have hq := h q (by simp)
    cases i with
    | zero => simp [← hq, List.drop_left]
    | succ i =>
      have := ih (fun k hk => h k (by simp [hk])) (i := i) x hx (by simpa using hi)
      simp only [List.flatten_cons, List.set_cons_succ]
      rw [← this]
      have e1 : (i + 1) * 32 = q.length + i * 32 := by omega
      have e2 : (i + 1) * 32 + 32 = q.length + (i * 32 + 32) := by omega
      rw [e2, e1, List.take_append, List.drop_append]
      simp [List.take_of_length_le, List.drop_eq_nil_of_le]
theorem RH.set (h : RH w g L tl) {i : Nat} {x : List UInt8} (hx : x.length = 32) (hi : i < L.length) : RH (putAt w ⟨g, i * 32, none⟩ (c8 x)) g (L.set i x) tl := by
  refine ⟨fun k hk => ?_, ?_⟩
  · rcases List.mem_or_eq_of_mem_set hk with h1 | rfl
    · exact h.1 k h1
    · exact hx
  · have hl := length_hflat h.1
    have := h.2.put (o := i * 32) (vs := c8 x) (by simp [hl, hx]; omega)
    have e : (c8 L.flatten ++ tl).take (i * 32) ++ c8 x ++ (c8 L.flatten ++ tl).drop (i * 32 + (c8 x).length) = c8 (L.set i x).flatten ++ tl := by
      rw [← hflat_set h.1 x hx hi, length_c8, hx, List.take_append_of_le_length (by simp [hl]; omega), List.drop_append_of_le_length (by simp [hl]; omega)]
      simp [c8, List.map_drop, List.map_take]
    rw [e] at this
    exact this
theorem grown_putAt (w : World) (g o : Nat) (vs : List Value) : w.grownBy (putAt w ⟨g, o, none⟩ vs) (some g) := by
  have h := below_putAt (a := ⟨g, o, none⟩) (Below.refl 0 w) (Nat.zero_le _) vs
  exact ⟨h.os, h.tape, h.output, h.size, fun k hk hne => heap_setCells _ _ _ _ _ (fun e => hne (by rw [e]))⟩
theorem c8z (n : Nat) : c8 (z8 n) = List.replicate n (v8 0) := by simp [c8, z8]
theorem RH.clear (h : RH w g L tl) {i n : Nat} (hi : i + n = L.length) : ∃ L', L'.take i = L.take i ∧ L'.length = L.length ∧ RH (putAt w ⟨g, i * 32, none⟩ (c8 (z8 (n * 32)))) g L' tl := by
  induction n generalizing w L i with
  | zero => exact ⟨L, rfl, rfl, by simpa [z8, c8, putAt, World.setCells] using h⟩
  | succ n ih =>
    have h1 := h.set (i := i) (x := z8 32) (by simp) (by omega)
    obtain ⟨L', e1, e2, h2⟩ := ih h1 (i := i + 1) (by simp; omega)
    refine ⟨L', ?_, by simpa using e2, ?_⟩
    · have := congrArg (List.take i) e1
      rw [List.take_take, List.take_take] at this
      simpa [List.take_set_of_le] using this
    · have e : putAt w ⟨g, i * 32, none⟩ (c8 (z8 ((n + 1) * 32))) = putAt (putAt w ⟨g, i * 32, none⟩ (c8 (z8 32))) ⟨g, (i + 1) * 32, none⟩ (c8 (z8 (n * 32))) := by
        have hz : c8 (z8 ((n + 1) * 32)) = c8 (z8 32) ++ c8 (z8 (n * 32)) := by
          rw [c8z, c8z, c8z, show (n + 1) * 32 = 32 + n * 32 by omega]
          exact (List.replicate_append_replicate).symm
        have hs : ∀ (a b : List Value) (o : Nat) (w : World), w.setCells g o (a ++ b) = (w.setCells g o a).setCells g (o + a.length) b := by
          intro a
          induction a with
          | nil => intro b o w; rfl
          | cons v a ih => intro b o w; simp only [List.cons_append, World.setCells, ih, List.length_cons]; rw [show o + 1 + a.length = o + (a.length + 1) by omega]
        unfold putAt
        rw [hz, hs]
        simp [Nat.add_mul]
      rw [e]
      exact h2
end
theorem run_clear_h32 {w : World} {g o n c : Nat} (ty : TypeId) (h : canAt w ⟨g, o, none⟩ (n * 32) = true) : (Builtin.clear_ #[23] ty #[.slice (some ⟨g, o, none⟩) n c]).run Try.prog w = .ok (.tuple #[]) (putAt w ⟨g, o, none⟩ (c8 (z8 (n * 32)))) := by
  have hc := canAt_iff.1 h
  obtain ⟨z, hz0⟩ : ∃ z, z = A8 (z8 32) := ⟨_, rfl⟩
  have hzc : z.cells = (List.replicate 32 (v8 0)).toArray := by rw [hz0]; exact congrArg List.toArray (c8z 32)
  have hz : (Builtin.zeroCells z.cells n).toList = c8 (z8 (n * 32)) := by
    rw [c8z]
    apply List.ext_getElem
    · simp [Builtin.zeroCells, hzc]
    · intro i h1 h2
      have hlt : i % 32 < 32 := Nat.mod_lt _ (by omega)
      simp [Builtin.zeroCells, hzc, getElem!_pos, hlt, -List.reduceReplicate]
  have hst := run_storeCells_cells (P := Try.prog) g o (c8 (z8 (n * 32))) 0 w (fun j hj => by simpa using (hc j (by simpa using hj)).1) (fun j hj => by simpa using (hc j (by simpa using hj)).2) (by intro u hu; obtain ⟨x, _, rfl⟩ := List.mem_map.1 hu; rfl)
  simp only [Nat.add_zero] at hst
  cases n with
  | zero => simp [Builtin.clear_, run_underlying Try.underlying23, z8, c8, putAt, World.setCells]
  | succ n =>
    have hzv : ∀ w, (zeroValue 24).run Try.prog w = .ok z w := fun w => by rw [hz0]; kernel_rfl
    simp [Builtin.clear_, run_underlying Try.underlying23, hzv, hz, hst, putAt]
section
variable (c : Nat) (la : Value) (p : List UInt8 → Bool) (eg : ∀ args w, (callFunc c args).run Try.prog w = .ok (.enter c args) w) (base : Nat) (w0 : World) (HP : ∀ W x, x.length = 32 → Below base w0 W → Calls Try.prog c #[A8 x, la] W fun e w' => e = .returned (.bool (p x)) ∧ Below W.heap.size W w')
include eg HP
set_option maxRecDepth 100000 in
set_option maxHeartbeats 2000000 in
theorem idx_any (g cap : Nat) (ks : List (List UInt8)) (tl : List Value) (hn : ks.length ≤ 1099511627776) (w : World) (hbs : base ≤ w.heap.size) (h0 : Below base w0 w) (hR : RH w g ks tl) :
    Calls Try.prog 51 #[.slice (some ⟨g, 0, none⟩) ks.length cap, .func (.func c) #[] #[la]] w fun e w' => ∃ r : Int, e = .returned (.int .i64 r) ∧ Below w.heap.size w w' ∧
      ((r = -1 ∧ ∀ k ∈ ks, p k = false) ∨ ∃ (i : Nat) (k : List UInt8), r = (i : Int) ∧ ks[i]? = some k ∧ p k = true ∧ ∀ k ∈ ks.take i, p k = false) := by
  have HPh := Lib.hid HP
  clear HP
  go_enter Try.func51, Try.ntmps51
  go_wp2_with fail
  go_loopw [8] (fun t wr => ∃ i : Nat, i ≤ ks.length ∧ t = .int .i64 (i : Int) ∧ (∀ k ∈ ks.take i, p k = false) ∧ Below w.heap.size w wr) (fun t _ => ks.length - (intOf t).toNat)
  case atStart => exact ⟨0, by omega, rfl, by simp, Below.refl _ _⟩
  case round =>
    obtain ⟨i, hi, rfl, he, hb⟩ := hrel
    by_cases hlt : i < ks.length
    · obtain ⟨k, hk⟩ : ∃ k, ks[i]? = some k := ⟨_, List.getElem?_eq_getElem hlt⟩
      have hrow := (hR.below hb hR.lt).row hk
      have hkl := hR.1 k (List.mem_of_getElem? hk)
      have hcall := HPh.out wr k hkl (h0.trans (hb.mono hbs))
      have HK := Lib.hid hk
      have HE := Lib.hid he
      clear hk he
      cases hq : p k with
      | true =>
        rw [hq] at hcall
        go_wp2_with (go_at_fn c; refine hcall.mono ?_; rintro e w' ⟨rfl, hb'⟩)
        go_ret
        exact ⟨_, rfl, hb.trans (hb'.mono hb.size), .inr ⟨i, k, rfl, HK.out, hq, HE.out⟩⟩
      | false =>
        rw [hq] at hcall
        go_wp2_with (go_at_fn c; refine hcall.mono ?_; rintro e w' ⟨rfl, hb'⟩)
        go_roundw
        case rel =>
          refine ⟨i + 1, by omega, by go_num, fun x hx => ?_, hb.trans (hb'.mono hb.size)⟩
          rw [take_step HK.out] at hx
          rcases List.mem_append.1 hx with hx | hx
          · exact HE.out x hx
          · simp at hx; subst hx; exact hq
        case measure => simp [intOf]; omega
    · obtain rfl : i = ks.length := by omega
      go_wp2_with fail
      go_ret
      exact ⟨_, rfl, hb, .inl ⟨rfl, by simpa using he⟩⟩
set_option maxRecDepth 100000 in
set_option maxHeartbeats 4000000 in
theorem del_any (g cap : Nat) (ks : List (List UInt8)) (tl : List Value) (hn : ks.length ≤ 1099511627776) (hc1 : ks.length ≤ cap) (hc2 : cap ≤ 9223372036854775807) (w : World) (hbs : base ≤ g) (h0 : Below base w0 w) (hR : RH w g ks tl) :
    Calls Try.prog 41 #[.slice (some ⟨g, 0, none⟩) ks.length cap, .func (.func c) #[] #[la]] w fun e w' => ∃ (m : Nat) (L : List (List UInt8)), e = .returned (.slice (some ⟨g, 0, none⟩) m cap) ∧ m = (ks.filter fun k => !p k).length ∧ w.grownBy w' (some g) ∧ RH w' g L tl ∧ L.length = ks.length ∧ L.take m = ks.filter fun k => !p k := by
  have hgl := hR.lt
  have hidx := idx_any c la p eg base w0 HP g cap ks tl hn w (by omega) h0 hR
  have HPh := Lib.hid HP
  have HI := Lib.hid hidx
  clear HP hidx
  go_enter Try.func41, Try.ntmps41
  go_wp2_with fail
  refine HI.out.mono ?_
  rintro e w1 ⟨r, rfl, hb1, hr⟩
  clear HI
  rcases hr with ⟨rfl, hall⟩ | ⟨i0, k0, rfl, hk0, hp0, hpre⟩
  · have e : (ks.filter fun k => !p k) = ks := List.filter_eq_self.2 fun k hk => by simp [hall k hk]
    have hgb : w.grownBy w1 (some g) := ⟨hb1.os, hb1.tape, hb1.output, hb1.size, fun k hk _ => hb1.block k hk⟩
    go_wp2_with fail
    go_ret
    exact ⟨ks.length, ks, rfl, by rw [e], hgb, hR.below hb1 hgl, rfl, by rw [e]; simp⟩
  · have hi0 : i0 < ks.length := (List.getElem?_eq_some_iff.1 hk0).1
    have hne1 : ((i0 : Int) == -1) = false := beq_eq_false_iff_ne.2 (by omega)
    have hf0 : Hid (ks.take i0 = (ks.take (i0 + 1)).filter fun k => !p k) := Lib.hid (by
      rw [take_step hk0, List.filter_append]
      have : (ks.take i0).filter (fun k => !p k) = ks.take i0 := List.filter_eq_self.2 fun k hk => by simp [hpre k hk]
      rw [this]
      simp [hp0])
    have hR1 := hR.below hb1 hgl
    have hgb1 : w.grownBy w1 (some g) := ⟨hb1.os, hb1.tape, hb1.output, hb1.size, fun k hk _ => hb1.block k hk⟩
    clear hk0 hp0 hpre
    go_wp2_with fail
    go_loopw [5, 6] (fun t5 t6 wr => ∃ (i j : Nat) (L : List (List UInt8)), t5 = .int .i64 (i : Int) ∧ t6 = .int .i64 (j : Int) ∧ i < j ∧ j ≤ ks.length ∧ Hid (L.take i = (ks.take j).filter fun k => !p k) ∧ Hid (L.drop j = ks.drop j) ∧ L.length = ks.length ∧ RH wr g L tl ∧ w.grownBy wr (some g)) (fun _ t6 _ => ks.length - (intOf t6).toNat)
    case atStart => exact ⟨i0, i0 + 1, ks, rfl, by go_num, by omega, by omega, hf0, Lib.hid rfl, rfl, hR1, hgb1⟩
    case round =>
      clear hf0 hR1 hgb1 hb1 hi0 hne1
      obtain ⟨i, j, L, rfl, rfl, hij, hjl, hT, hD, hLl, hRr, hgr⟩ := hrel
      by_cases hlt : j < ks.length
      · obtain ⟨x, hx⟩ : ∃ x, L[j]? = some x := ⟨_, List.getElem?_eq_getElem (by omega)⟩
        have hxk : Hid (ks[j]? = some x) := Lib.hid (by have := congrArg (·[0]?) hD.out; simpa [List.getElem?_drop, hx] using this.symm)
        have hrow := hRr.row hx
        have hxl := hRr.1 x (List.mem_of_getElem? hx)
        have hcan := hRr.can (i := i) (by omega)
        have hlW := hRr.lt
        obtain ⟨wb, hwb⟩ : ∃ wb, wb = putAt (wr.alloc (Obj.cells (c8 (z8 32)).toArray 24)) ⟨wr.heap.size, 0, none⟩ (c8 x) := ⟨_, rfl⟩
        have KX : Bk wb wr.heap.size 24 (c8 x) := by rw [hwb]; exact Bk.fresh wr _ (by simp [hxl])
        have BX : Below wr.heap.size wr wb := by rw [hwb]; exact below_putAt ((Below.refl _ _).alloc (Nat.le_refl _) _) (Nat.le_refl _) _
        have hbr : Below base w0 wr := h0.grown hgr (by omega) (fun k hk => by injection hk with hk; omega)
        have hcall := HPh.out wb x hxl (hbr.trans (BX.mono (by omega)))
        have HX := Lib.hid hx
        clear hx
        have hRb : RH wb g L tl := hRr.below BX hlW
        have hrb : rowAt (putAt (wr.alloc (Obj.cells (c8 (z8 32)).toArray 24)) ⟨wr.heap.size, 0, none⟩ (c8 x)) ⟨wr.heap.size, 0, none⟩ 32 = some (c8 x) := by rw [← hwb]; have := KX.rows; rwa [length_c8, hxl] at this
        have hgb : w.grownBy wb (some g) := hgr.trans ⟨BX.os, BX.tape, BX.output, BX.size, fun k hk _ => BX.block k hk⟩
        have hDj : Hid (L.drop (j + 1) = ks.drop (j + 1)) := Lib.hid (by have := congrArg (List.drop 1) hD.out; simpa [List.drop_drop, Nat.add_comm] using this)
        cases hq : p x with
        | true =>
          rw [hq] at hcall
          go_wp2_with fail
          rw [← hwb]
          clear hwb hrb
          refine hcall.mono ?_
          rintro e w' ⟨rfl, hb'⟩
          go_wp2_with fail
          go_roundw
          case rel => exact ⟨i, j + 1, L, rfl, by go_num, by omega, by omega, Lib.hid (by rw [take_step hxk.out, List.filter_append, hT.out]; simp [hq]), hDj, hLl, hRb.below hb' hRb.lt, hgb.trans ⟨hb'.os, hb'.tape, hb'.output, hb'.size, fun k hk _ => hb'.block k hk⟩⟩
          case measure => simp [intOf]; omega
        | false =>
          rw [hq] at hcall
          go_wp2_with fail
          rw [← hwb]
          clear hwb hrb
          refine hcall.mono ?_
          rintro e w' ⟨rfl, hb'⟩
          have hR' := hRb.below hb' hRb.lt
          have hrx : rowAt w' ⟨wr.heap.size, 0, none⟩ 32 = some (c8 x) := by have := (KX.below hb' KX.lt).rows; rwa [length_c8, hxl] at this
          have hcx := hR'.can (i := i) (by omega)
          have hgw : w.grownBy w' (some g) := hgb.trans ⟨hb'.os, hb'.tape, hb'.output, hb'.size, fun k hk _ => hb'.block k hk⟩
          have hgl' := hR'.lt
          clear hcan hrow
          go_wp2_with fail
          go_roundw
          case rel =>
            refine ⟨i + 1, j + 1, L.set i x, by go_num, by go_num, by omega, by omega, Lib.hid ?_, Lib.hid ?_, by simp [hLl], hR'.set hxl (by omega), hgw.trans (grown_putAt _ _ _ _)⟩
            · rw [take_step hxk.out, List.filter_append, ← hT.out, take_step (q := x) (by simp [show i < L.length by omega]), List.take_set_of_le (Nat.le_refl _)]
              simp [hq]
            · rw [List.drop_set_of_lt (by omega)]; exact hDj.out
          case measure => simp [intOf]; omega
      · obtain rfl : j = ks.length := by omega
        have hcan := hRr.can_to (i := i) (n := ks.length - i) (by omega)
        have hcl : ∀ ty, (Builtin.clear_ #[23] ty #[.slice (some ⟨g, i * 32, none⟩) (ks.length - i) (cap - i)]).run Try.prog wr = _ := fun ty => run_clear_h32 ty hcan
        obtain ⟨L', e1, e2, hR2⟩ := hRr.clear (i := i) (n := ks.length - i) (by omega)
        have hT' := Lib.hid (show L'.take i = ks.filter fun k => !p k by rw [e1, hT.out, List.take_length])
        clear hcan
        go_wp2_with fail
        go_ret
        refine ⟨i, L', rfl, ?_, hgr.trans (grown_putAt _ _ _ _), hR2, by omega, hT'.out⟩
        rw [← hT'.out]; simp; omega
end
theorem RH.of_own {w : World} {base : Nat} {A : Option Addr} {n c : Nat} {ks : List (List UInt8)} (h : w.ownsRow base 24 32 (.slice A n c) n (c8 ks.flatten)) (hk : ∀ k ∈ ks, k.length = 32) (hn : n = ks.length) (hp : 0 < n) : ∃ g tl, A = some ⟨g, 0, none⟩ ∧ base ≤ g ∧ RH w g ks tl ∧ n ≤ c ∧ c ≤ 9223372036854775807 := by
  rcases h.2 with ⟨hv, h0⟩ | ⟨g, cap, cur, hv, hbg, hh, hr, hm, hsz, ht⟩
  · omega
  · injection hv with h1 h2 h3
    subst h1 h3
    refine ⟨g, cur.toList.drop (n * 32), rfl, hbg, ⟨hk, ?_⟩, hr, by unfold maxLen at hm; exact hm⟩
    have e : c8 ks.flatten ++ cur.toList.drop (n * 32) = cur.toList := by
      rw [← ht, List.take_append_drop]
    rw [e]
    exact hh
set_option maxRecDepth 100000 in
theorem clone_any (v : Value) (ks : List (List UInt8)) (w : World) (hv : Hs w 0 w.heap.size v ks) (hne : 0 < ks.length) (hn : ks.length ≤ 1099511627) :
    Calls Try.prog 42 #[v] w fun e w' => ∃ (g cap : Nat) (tl : List Value), e = .returned (.slice (some ⟨g, 0, none⟩) ks.length cap) ∧ w.heap.size ≤ g ∧ RH w' g ks tl ∧ ks.length ≤ cap ∧ cap ≤ 9223372036854775807 ∧ Below w.heap.size w w' := by
  obtain ⟨A, c, hv1, hc1, hc2⟩ := hv.form
  obtain ⟨hkl, A', c', hv', _, _, hrd⟩ := hv
  have hA : A = A' := by rw [hv1] at hv'; injection hv'
  subst hA
  subst hv1
  have hA1 : A.isNone = false := by
    rcases hrd with h | ⟨g, o, h, _⟩
    · have := congrArg List.length h; rw [length_c8, length_hflat hkl] at this; simp at this; omega
    · rw [h]; rfl
  have hl := length_hflat hkl
  have hrd' : Rd (w.alloc (.cells #[] 24)) 0 w.heap.size A (c8 ks.flatten) := hrd.below ((Below.refl _ _).alloc (Nat.le_refl _) _)
  have q22 : ∀ (w : World) (a : Option Addr) (n c n' c' : Nat), (binOp .eql 23 (.slice a n c) (.slice none n' c')).run Try.prog w = .ok (.bool a.isNone) w := fun w a n c n' c' => Lib.run_eql_slice_nil w _ _ a n c n' c' Try.underlying23
  go_enter Try.func42, Try.ntmps42
  go_wp2_with (at_builtin; refine appR 23 (A8 (z8 32)) 32 Try.underlying23 infoH (by simp [A8, Value.cells]) (by decide) (by decide) rfl _ _ rfl rfl (n := 0) (base := w.heap.size) (World.ownsRow_made w #[] 0 (Nat.le_refl _) (Nat.zero_le _) (by simp)) A ks.length c rfl (c8 ks.flatten) (by simp [hl]) 0 _ hrd' (by intro u hu; obtain ⟨x, _, rfl⟩ := List.mem_map.1 hu; rfl) (by omega) (by simp) ?_; intro A' c' w' hc1' hc2' hown hb' hg' hat')
  go_ret
  obtain ⟨g, tl, rfl, hg1, hR, hcc, hcm⟩ := RH.of_own (by simpa using hown) hkl rfl (by omega)
  exact ⟨g, c', tl, by simp, hg1, hR, hcc, hcm, ((Below.refl _ _).alloc (Nat.le_refl _) _).trans hb'⟩
end Go.Proofs.Ytlegpkdighoflaa
