/- witanref10: Part.Bytes. -/
import Derived.Test.YtlegpkdighoflaaRRoot
import Derived.Test.YtlegpkdighoflaaRTwo
set_option linter.unusedVariables false
set_option linter.unusedSimpArgs false
namespace Go.Proofs.Ytlegpkdighoflaa
open Go Go.RowKit Sh
/-- A part's bytes, a pair being put where it leads to. -/
def rBytes (k v : List UInt8) : Nat → Nat → Bool → Pt → List UInt8
  | _, _, put, .e => if put then ([1] ++ k) ++ v else [0]
  | f, d, put, .lf a b => if put then (if a = k then ([1] ++ a) ++ v else twoB a b k v f d) else ([1] ++ a) ++ b
  | _, _, _, .hd h => [3] ++ h
  | 0, _, _, .nd _ _ => []
  | f + 1, d, put, .nd l r => ([2] ++ rBytes k v f (d + 1) (put && !kbit k d) l) ++ rBytes k v f (d + 1) (put && kbit k d) r
theorem rBytes_no {k v : List UInt8} : ∀ (f d : Nat) (p : Pt), f + d = 256 → p.Dp d → rBytes k v f d false p = p.bytes := by
  intro f
  induction f with
  | zero => intro d p hf hd; cases p with
    | nd l r => exact absurd hd.1 (by omega)
    | e => rfl
    | lf a b => rfl
    | hd h => rfl
  | succ f ih => intro d p hf hd; cases p with
    | nd l r => simp only [rBytes, Bool.false_and, Pt.bytes]; rw [ih _ _ (by omega) hd.2.1, ih _ _ (by omega) hd.2.2]
    | e => rfl
    | lf a b => rfl
    | hd h => rfl
theorem rBytes_put {k v : List UInt8} (hk : k.length = 32) : ∀ (f d : Nat) (p q : Pt) (P : Nat → Bool), f + d = 256 → (∀ i, i < d → kbit k i = P i) → p.Ok d P → p.put k v f d = some q → rBytes k v f d true p = q.bytes := by
  intro f
  induction f with
  | zero => intro d p q P hf ha ok hq; cases p with
    | nd l r => exact absurd ok.1 (by omega)
    | e => simp only [Pt.put, Option.some.injEq] at hq; subst hq; rfl
    | lf a b =>
      have e : a = k := key_ext ok.1 hk fun i hi => by rw [ok.2.2 i (by omega), ha i (by omega)]
      subst e
      simp only [Pt.put, if_true, Option.some.injEq] at hq
      subst hq
      simp [rBytes, Pt.bytes]
    | hd h => cases hq
  | succ f ih => intro d p q P hf ha ok hq; cases p with
    | e => simp only [Pt.put, Option.some.injEq] at hq; subst hq; rfl
    | hd h => cases hq
    | lf a b =>
      by_cases e : a = k
      · subst e
        simp only [Pt.put, if_true, Option.some.injEq] at hq
        subst hq
        simp [rBytes, Pt.bytes]
      · obtain ⟨q', h1, h2⟩ := put_two (v' := b) (v := v) ok.1 hk e (f + 1) d hf (fun i hi => by rw [ok.2.2 i hi, ha i hi])
        rw [h1] at hq
        simp only [Option.some.injEq] at hq
        subst hq
        rw [h2]
        simp only [rBytes, e, if_true, if_false]
    | nd l r =>
      simp only [Pt.put] at hq
      split at hq
      · rename_i hb
        obtain ⟨x, hx, rfl⟩ := Option.map_eq_some_iff.1 hq
        simp only [rBytes, hb, Bool.not_true, Bool.and_false, Bool.and_true, Pt.bytes]
        rw [rBytes_no _ _ _ (by omega) ok.2.1.dp, ih _ _ _ _ (by omega) (upd_way ha hb) ok.2.2 hx]
      · rename_i hb
        simp only [Bool.not_eq_true] at hb
        obtain ⟨x, hx, rfl⟩ := Option.map_eq_some_iff.1 hq
        simp only [rBytes, hb, Bool.not_false, Bool.and_false, Bool.and_true, Pt.bytes]
        rw [rBytes_no _ _ _ (by omega) ok.2.2.dp, ih _ _ _ _ (by omega) (upd_way ha hb) ok.2.1 hx]
/-- The world behind the first two regions: the pair's cell, and the node's copy. -/
def rbW (w : World) (kv : Pr) (x : NV) : World := putAt ((w.alloc (Obj.cells (c8 (pb kv)).toArray 26)).alloc (Obj.cells ndz.cells.toArray 67)) ⟨w.heap.size + 1, 0, none⟩ x.cells
theorem rbW_below (w : World) (kv : Pr) (x : NV) : Below w.heap.size w (rbW w kv x) := below_putAt (((Below.refl _ _).alloc (Nat.le_refl _) _).alloc (by simp) _) (by simp) _
theorem rbW_pair (w : World) (kv : Pr) (x : NV) : Bk (rbW w kv x) w.heap.size 26 (c8 (pb kv)) := ((Bk.new w _ _).alloc _).putFar (by simp) _
theorem rbW_new (w : World) (kv : Pr) : Bk ((w.alloc (Obj.cells (c8 (pb kv)).toArray 26)).alloc (Obj.cells ndz.cells.toArray 67)) (w.heap.size + 1) 67 ndz.cells := by simpa using Bk.new (w.alloc (Obj.cells (c8 (pb kv)).toArray 26)) 67 ndz.cells
theorem rbW_nd (w : World) (kv : Pr) {x : NV} (h : x.Ok) : ND (rbW w kv x) (w.heap.size + 1) [x] [] := by
  refine ⟨by simpa using h, ?_⟩
  simpa [nflat, rbW] using (rbW_new w kv).puts (vs := x.cells) (by rw [NV.len h, NV.len ndz_ok])
theorem rbW_can (w : World) (kv : Pr) : canAt ((w.alloc (Obj.cells (c8 (pb kv)).toArray 26)).alloc (Obj.cells ndz.cells.toArray 67)) ⟨w.heap.size + 1, 0, none⟩ 67 = true := (rbW_new w kv).can (by rw [NV.len ndz_ok]; omega)
section
variable (k v : List UInt8) (hk : k.length = 32) (hv : v.length = 32) (gp gn c : Nat) (nds : List NV) (i d : Nat) (w : World) (hs : PS w gp gn nds c) (x : NV) (hx : nds[i]? = some x)
include hk hv hs hx
set_option maxRecDepth 100000 in
set_option maxHeartbeats 4000000 in
theorem rb_e0 (hki : x.kind = 0) : Calls Try.prog 13 #[.pointer (some ⟨gp, 0, none⟩), .int .i64 (i : Int), .int .i64 (d : Int), .bool false, A8 (pb (k, v))] w fun e w' => ∃ u, e = .returned u ∧ By w' 0 w'.heap.size u [0] ∧ Below w.heap.size w w' := by
  have hs' := hs
  obtain ⟨tl, hb, hnd⟩ := hs
  have hil : i < nds.length := (List.getElem?_eq_some_iff.1 hx).1
  have hli : (i : Int) < (nds.length : Int) := by omega
  have hxok := hnd.1 x (List.mem_of_getElem? hx)
  have hxl := NV.len hxok
  have hxr := hnd.row hx
  have p0 := hb.at_ (i := 0) rfl
  have zp := hb.lt
  have zn := hnd.lt
  have kc := rbW_can w (k, v)
  have hl64 : (pb (k, v)).length = 64 := PrOk.len ⟨hk, hv⟩
  have N1 := rbW_nd w (k, v) hxok
  have P1 := rbW_pair w (k, v) x
  have B1 := rbW_below w (k, v) x
  have n0 := N1.kind (i := 0) (x := x) rfl
  rw [hki] at n0
  simp only [Nat.zero_mul] at n0
  unfold rbW at n0
  obtain ⟨W0, hW0⟩ : ∃ y, y = rbW w (k, v) x := ⟨_, rfl⟩
  rw [← hW0] at N1 P1 B1
  have zN := N1.lt
  have zP := P1.lt
  go_enter Try.func13, Try.ntmps13
  go_wp2_with fail
  change bodyPost _ _ _ _ _ ((rbW w (k, v) x).alloc (Obj.cells #[.int .u8 0] 5))
  rw [← hW0]
  go_ret
  have sz0 : W0.heap.size = w.heap.size + 1 + 1 := by rw [hW0]; simp [rbW]
  have y0 := By.build W0 5 (0, 0) [0] (by simp)
  rw [sz0] at y0
  exact ⟨_, rfl, y0.more (B' := (W0.alloc (Obj.cells #[.int .u8 0] 5)).heap.size) (by simp [sz0]), below_two B1 ((Below.refl _ _).alloc (Nat.le_refl _) _) B1.size⟩
set_option maxRecDepth 100000 in
set_option maxHeartbeats 4000000 in
theorem rb_e1 (hki : x.kind = 0) : Calls Try.prog 13 #[.pointer (some ⟨gp, 0, none⟩), .int .i64 (i : Int), .int .i64 (d : Int), .bool true, A8 (pb (k, v))] w fun e w' => ∃ u, e = .returned u ∧ By w' 0 w'.heap.size u (([1] ++ k) ++ v) ∧ Below w.heap.size w w' := by
  have hs' := hs
  obtain ⟨tl, hb, hnd⟩ := hs
  have hil : i < nds.length := (List.getElem?_eq_some_iff.1 hx).1
  have hli : (i : Int) < (nds.length : Int) := by omega
  have hxok := hnd.1 x (List.mem_of_getElem? hx)
  have hxl := NV.len hxok
  have hxr := hnd.row hx
  have p0 := hb.at_ (i := 0) rfl
  have zp := hb.lt
  have zn := hnd.lt
  have kc := rbW_can w (k, v)
  have hl64 : (pb (k, v)).length = 64 := PrOk.len ⟨hk, hv⟩
  have N1 := rbW_nd w (k, v) hxok
  have P1 := rbW_pair w (k, v) x
  have B1 := rbW_below w (k, v) x
  have n0 := N1.kind (i := 0) (x := x) rfl
  rw [hki] at n0
  simp only [Nat.zero_mul] at n0
  unfold rbW at n0
  obtain ⟨W0, hW0⟩ : ∃ y, y = rbW w (k, v) x := ⟨_, rfl⟩
  rw [← hW0] at N1 P1 B1
  have zN := N1.lt
  have zP := P1.lt
  go_enter Try.func13, Try.ntmps13
  go_wp2_with fail
  change (Code.wp _ _ _ _ (rbW w (k, v) x))
  rw [← hW0]
  clear hW0 n0 kc hxr p0
  have S0 : Below W0.heap.size W0 W0.drew := (Below.refl _ _).drew
  refine held_begin (fun W => Below W0.heap.size W0 W) (by kernel_rfl) ?_
  refine held_quiet (A := ?A1) [1, 2, 4, 5] (by kernel_rfl) (by kernel_rfl) rfl (by kernel_rfl) (by kernel_rfl) S0 (h := fun W hW => ?h1) (hr := ?r1)
  case h1 =>
    simp only [pick, List.getElem?_cons_zero, List.getElem?_cons_succ]
    repeat (go_big_quiet_step (fail))
    refine wpQuiet_nil ?_
    rfl
  case r1 =>
    refine held_one 0 (by kernel_rfl) (by rfl) (by rfl) (fun Q' hQ' => ?_)
    dsimp only [bare]
    go_wp2_with fail
    obtain ⟨W1, hW1⟩ : ∃ y, y = (W0.alloc (Obj.cells #[.int .u8 1] 5)).drew := ⟨_, rfl⟩
    rw [← hW1]
    have S1 : Below W0.heap.size W0 W1 := by rw [hW1]; exact ((Below.refl _ _).alloc (Nat.le_refl _) _).drew
    have O1 : Own8 W1 W0.heap.size (.slice (some ⟨W0.heap.size, 0, none⟩) 1 1) [1] := by rw [hW1]; exact (Own8.build' W0 [1] (by simp)).drewN 1
    have zz1 := S1.size
    refine hQ' _ _ S1 ?_
    clear hQ' hW1
    have yk : By W1 0 W1.heap.size (.slice (some ⟨w.heap.size, 0, none⟩) 32 32) k := By.of_row (pair_key (P1.below S1 zP) ⟨hk, hv⟩) (P1.below S1 zP).lt (by omega)
    refine held_one 3 (by kernel_rfl) (by rfl) (by rfl) (fun Q' hQ' => ?_)
    dsimp only [bare]
    refine app8 _ W0.heap.size _ _ rfl _ _ rfl rfl O1 _ rfl k 0 _ yk (by simp [hk]) zz1 ?_
    intro A2 c2 W2 hc21 hc22 O2 hB2 _ _
    obtain ⟨u2, hu2⟩ : ∃ u, u = Value.slice A2 ([1] ++ k).length c2 := ⟨_, rfl⟩
    rw [← hu2] at O2 ⊢
    clear hu2 hc21 hc22
    have S2 := S1.trans hB2
    have zz2 := S2.size
    go_wp2_with fail
    refine hQ' _ _ S2 ?_
    clear hQ'
    have yv : By W2 0 W2.heap.size (.slice (some ⟨w.heap.size, 32, none⟩) 32 32) v := By.of_row (pair_val (P1.below S2 zP) ⟨hk, hv⟩) (P1.below S2 zP).lt (by omega)
    refine held_one 6 (by kernel_rfl) (by rfl) (by rfl) (fun Q' hQ' => ?_)
    dsimp only [bare]
    refine app8 _ W0.heap.size _ _ rfl _ _ rfl rfl O2 _ rfl v 0 _ yv (by simp [hk, hv]) zz2 ?_
    intro A3 c3 W3 hc31 hc32 O3 hB3 _ _
    obtain ⟨u3, hu3⟩ : ∃ u, u = Value.slice A3 (([1] ++ k) ++ v).length c3 := ⟨_, rfl⟩
    rw [← hu3] at O3 ⊢
    clear hu3 hc31 hc32
    have S3 := S2.trans hB3
    go_wp2_with fail
    refine hQ' _ _ S3 ?_
    clear hQ'
    refine held_one 7 (by kernel_rfl) (by rfl) (by rfl) (fun Q' hQ' => ?_)
    dsimp only [bare]
    go_wp2_with fail
    refine hQ' _ _ S3 ?_
    clear hQ'
    refine held_end (by kernel_rfl) ?_
    go_wp2_with fail
    go_ret
    exact ⟨_, rfl, by simpa using (O3.by_).less (Nat.zero_le _), below_two B1 S3 B1.size⟩
set_option maxRecDepth 100000 in
set_option maxHeartbeats 4000000 in
theorem rb_hd (put : Bool) (h : List UInt8) (hki : x.kind = 3) (hxv : x.v = h) : Calls Try.prog 13 #[.pointer (some ⟨gp, 0, none⟩), .int .i64 (i : Int), .int .i64 (d : Int), .bool put, A8 (pb (k, v))] w fun e w' => ∃ u, e = .returned u ∧ By w' 0 w'.heap.size u ([3] ++ h) ∧ Below w.heap.size w w' := by
  have hs' := hs
  obtain ⟨tl, hb, hnd⟩ := hs
  have hil : i < nds.length := (List.getElem?_eq_some_iff.1 hx).1
  have hli : (i : Int) < (nds.length : Int) := by omega
  have hxok := hnd.1 x (List.mem_of_getElem? hx)
  have hxl := NV.len hxok
  have hxr := hnd.row hx
  have p0 := hb.at_ (i := 0) rfl
  have zp := hb.lt
  have zn := hnd.lt
  have kc := rbW_can w (k, v)
  have hl64 : (pb (k, v)).length = 64 := PrOk.len ⟨hk, hv⟩
  have N1 := rbW_nd w (k, v) hxok
  have P1 := rbW_pair w (k, v) x
  have B1 := rbW_below w (k, v) x
  have n0 := N1.kind (i := 0) (x := x) rfl
  rw [hki] at n0
  simp only [Nat.zero_mul] at n0
  unfold rbW at n0
  obtain ⟨W0, hW0⟩ : ∃ y, y = rbW w (k, v) x := ⟨_, rfl⟩
  rw [← hW0] at N1 P1 B1
  have zN := N1.lt
  have zP := P1.lt
  have hhl : h.length = 32 := by rw [← hxv]; exact hxok.2
  obtain ⟨W1, hW1⟩ : ∃ y, y = W0.alloc (Obj.cells #[.int .u8 3] 5) := ⟨_, rfl⟩
  have b1 : Below W0.heap.size W0 W1 := by rw [hW1]; exact (Below.refl _ _).alloc (Nat.le_refl _) _
  have O1 : Own8 W1 W0.heap.size (.slice (some ⟨W0.heap.size, 0, none⟩) 1 1) [3] := by rw [hW1]; exact Own8.build' W0 [3] (by simp)
  have N2 := N1.below b1 zN
  have y1 : By W1 0 W1.heap.size (.slice (some ⟨w.heap.size + 1, 33, none⟩) 32 32) h := by have h' := N2.value (i := 0) (x := x) rfl; rw [hxv] at h'; exact By.of_row (by simpa using h') N2.lt (by omega)
  have zz1 := b1.size
  have sz0 : W0.heap.size = w.heap.size + 1 + 1 := by rw [hW0]; simp [rbW]
  rw [sz0] at O1 b1
  have hfold : (rbW w (k, v) x).alloc (Obj.cells #[.int .u8 3] 5) = W1 := by rw [hW1, hW0]
  have hfold2 := hfold
  unfold rbW at hfold2
  have HF := Lib.hid hfold
  have HF2 := Lib.hid hfold2
  clear hki hxv hfold hfold2
  go_enter Try.func13, Try.ntmps13
  go_wp2_with (at_builtin; (first | rw [HF.out] | rw [HF2.out]); refine app8 _ (w.heap.size + 1 + 1) _ _ rfl _ _ rfl rfl O1 _ rfl h 0 _ y1 (by simp [hhl]) (by omega) ?_; intro A2 c2 W2 hc21 hc22 O2 hB2 _ _; obtain ⟨u2, hu2⟩ : ∃ u, u = Value.slice A2 ([3] ++ h).length c2 := ⟨_, rfl⟩; rw [← hu2] at O2 ⊢; clear hu2 hc21 hc22)
  go_ret
  exact ⟨_, rfl, by simpa using (O2.by_).less (Nat.zero_le _), below_two B1 (by rw [sz0]; exact b1.trans hB2) B1.size⟩
set_option maxRecDepth 100000 in
set_option maxHeartbeats 4000000 in
theorem rb_lf0 (a b : List UInt8) (hki : x.kind = 1) (hxa : x.k = a) (hxb : x.v = b) : Calls Try.prog 13 #[.pointer (some ⟨gp, 0, none⟩), .int .i64 (i : Int), .int .i64 (d : Int), .bool false, A8 (pb (k, v))] w fun e w' => ∃ u, e = .returned u ∧ By w' 0 w'.heap.size u (([1] ++ a) ++ b) ∧ Below w.heap.size w w' := by
  have hs' := hs
  obtain ⟨tl, hb, hnd⟩ := hs
  have hil : i < nds.length := (List.getElem?_eq_some_iff.1 hx).1
  have hli : (i : Int) < (nds.length : Int) := by omega
  have hxok := hnd.1 x (List.mem_of_getElem? hx)
  have hxl := NV.len hxok
  have hxr := hnd.row hx
  have p0 := hb.at_ (i := 0) rfl
  have zp := hb.lt
  have zn := hnd.lt
  have kc := rbW_can w (k, v)
  have hl64 : (pb (k, v)).length = 64 := PrOk.len ⟨hk, hv⟩
  have N1 := rbW_nd w (k, v) hxok
  have P1 := rbW_pair w (k, v) x
  have B1 := rbW_below w (k, v) x
  have n0 := N1.kind (i := 0) (x := x) rfl
  rw [hki] at n0
  simp only [Nat.zero_mul] at n0
  unfold rbW at n0
  obtain ⟨W0, hW0⟩ : ∃ y, y = rbW w (k, v) x := ⟨_, rfl⟩
  rw [← hW0] at N1 P1 B1
  have zN := N1.lt
  have zP := P1.lt
  have hal : a.length = 32 := by rw [← hxa]; exact hxok.1
  have hbl : b.length = 32 := by rw [← hxb]; exact hxok.2
  go_enter Try.func13, Try.ntmps13
  go_wp2_with fail
  change (Code.wp _ _ _ _ (rbW w (k, v) x))
  rw [← hW0]
  clear hW0 n0 kc hxr p0
  have S0 : Below W0.heap.size W0 W0.drew := (Below.refl _ _).drew
  refine held_begin (fun W => Below W0.heap.size W0 W) (by kernel_rfl) ?_
  refine held_quiet (A := ?A1) [1, 2, 4, 5] (by kernel_rfl) (by kernel_rfl) rfl (by kernel_rfl) (by kernel_rfl) S0 (h := fun W hW => ?h1) (hr := ?r1)
  case h1 =>
    simp only [pick, List.getElem?_cons_zero, List.getElem?_cons_succ]
    repeat (go_big_quiet_step (fail))
    refine wpQuiet_nil ?_
    rfl
  case r1 =>
    refine held_one 0 (by kernel_rfl) (by rfl) (by rfl) (fun Q' hQ' => ?_)
    dsimp only [bare]
    go_wp2_with fail
    obtain ⟨W1, hW1⟩ : ∃ y, y = (W0.alloc (Obj.cells #[.int .u8 1] 5)).drew := ⟨_, rfl⟩
    rw [← hW1]
    have S1 : Below W0.heap.size W0 W1 := by rw [hW1]; exact ((Below.refl _ _).alloc (Nat.le_refl _) _).drew
    have O1 : Own8 W1 W0.heap.size (.slice (some ⟨W0.heap.size, 0, none⟩) 1 1) [1] := by rw [hW1]; exact (Own8.build' W0 [1] (by simp)).drewN 1
    have zz1 := S1.size
    refine hQ' _ _ S1 ?_
    clear hQ' hW1
    have yk : By W1 0 W1.heap.size (.slice (some ⟨w.heap.size + 1, 1, none⟩) 32 32) a := by have h := (N1.below S1 zN).key (i := 0) (x := x) rfl; rw [hxa] at h; exact By.of_row (by simpa using h) (N1.below S1 zN).lt (by omega)
    refine held_one 3 (by kernel_rfl) (by rfl) (by rfl) (fun Q' hQ' => ?_)
    dsimp only [bare]
    refine app8 _ W0.heap.size _ _ rfl _ _ rfl rfl O1 _ rfl a 0 _ yk (by simp [hal]) zz1 ?_
    intro A2 c2 W2 hc21 hc22 O2 hB2 _ _
    obtain ⟨u2, hu2⟩ : ∃ u, u = Value.slice A2 ([1] ++ a).length c2 := ⟨_, rfl⟩
    rw [← hu2] at O2 ⊢
    clear hu2 hc21 hc22
    have S2 := S1.trans hB2
    have zz2 := S2.size
    go_wp2_with fail
    refine hQ' _ _ S2 ?_
    clear hQ'
    have yv : By W2 0 W2.heap.size (.slice (some ⟨w.heap.size + 1, 33, none⟩) 32 32) b := by have h := (N1.below S2 zN).value (i := 0) (x := x) rfl; rw [hxb] at h; exact By.of_row (by simpa using h) (N1.below S2 zN).lt (by omega)
    refine held_one 6 (by kernel_rfl) (by rfl) (by rfl) (fun Q' hQ' => ?_)
    dsimp only [bare]
    refine app8 _ W0.heap.size _ _ rfl _ _ rfl rfl O2 _ rfl b 0 _ yv (by simp [hal, hbl]) zz2 ?_
    intro A3 c3 W3 hc31 hc32 O3 hB3 _ _
    obtain ⟨u3, hu3⟩ : ∃ u, u = Value.slice A3 (([1] ++ a) ++ b).length c3 := ⟨_, rfl⟩
    rw [← hu3] at O3 ⊢
    clear hu3 hc31 hc32
    have S3 := S2.trans hB3
    go_wp2_with fail
    refine hQ' _ _ S3 ?_
    clear hQ'
    refine held_one 7 (by kernel_rfl) (by rfl) (by rfl) (fun Q' hQ' => ?_)
    dsimp only [bare]
    go_wp2_with fail
    refine hQ' _ _ S3 ?_
    clear hQ'
    refine held_end (by kernel_rfl) ?_
    go_wp2_with fail
    go_ret
    exact ⟨_, rfl, by simpa using (O3.by_).less (Nat.zero_le _), below_two B1 S3 B1.size⟩
set_option maxRecDepth 100000 in
set_option maxHeartbeats 4000000 in
theorem rb_lf1 (a b : List UInt8) (hki : x.kind = 1) (hxa : x.k = a) (hxb : x.v = b) (hne : a ≠ k) (f : Nat) (hfd : f + d = 256) (hag : ∀ i, i < d → kbit a i = kbit k i) : Calls Try.prog 13 #[.pointer (some ⟨gp, 0, none⟩), .int .i64 (i : Int), .int .i64 (d : Int), .bool true, A8 (pb (k, v))] w fun e w' => ∃ u, e = .returned u ∧ By w' 0 w'.heap.size u (twoB a b k v f d) ∧ Below w.heap.size w w' := by
  have hs' := hs
  obtain ⟨tl, hb, hnd⟩ := hs
  have hil : i < nds.length := (List.getElem?_eq_some_iff.1 hx).1
  have hli : (i : Int) < (nds.length : Int) := by omega
  have hxok := hnd.1 x (List.mem_of_getElem? hx)
  have hxl := NV.len hxok
  have hxr := hnd.row hx
  have p0 := hb.at_ (i := 0) rfl
  have zp := hb.lt
  have zn := hnd.lt
  have kc := rbW_can w (k, v)
  have hl64 : (pb (k, v)).length = 64 := PrOk.len ⟨hk, hv⟩
  have N1 := rbW_nd w (k, v) hxok
  have P1 := rbW_pair w (k, v) x
  have B1 := rbW_below w (k, v) x
  have n0 := N1.kind (i := 0) (x := x) rfl
  rw [hki] at n0
  simp only [Nat.zero_mul] at n0
  unfold rbW at n0
  obtain ⟨W0, hW0⟩ : ∃ y, y = rbW w (k, v) x := ⟨_, rfl⟩
  rw [← hW0] at N1 P1 B1
  have zN := N1.lt
  have zP := P1.lt
  have hal : a.length = 32 := by rw [← hxa]; exact hxok.1
  have hbl : b.length = 32 := by rw [← hxb]; exact hxok.2
  have hab : (a == k) = false := by simp [hne]
  have n1 := N1.key (i := 0) (x := x) rfl
  have n2 := N1.value (i := 0) (x := x) rfl
  have rk := pair_key P1 ⟨hk, hv⟩
  have rp := pair_all P1 ⟨hk, hv⟩
  rw [hxa] at n1
  rw [hxb] at n2
  simp only [Nat.zero_mul, Nat.zero_add] at n1 n2
  have HC := Lib.hid (two_any a b k v hal hbl hk hv hne f d hfd hag W0)
  rw [hW0] at n1 n2 rk rp
  unfold rbW at n1 n2 rk rp
  clear hag hxa hxb hki
  go_enter Try.func13, Try.ntmps13
  go_wp2_with fail
  change (Calls _ _ _ (rbW w (k, v) x) _)
  rw [← hW0]
  refine HC.out.mono ?_
  rintro e w2 ⟨u2, rfl, y2, b2⟩
  clear HC
  go_wp2_with fail
  go_ret
  exact ⟨_, rfl, y2, below_two B1 b2 B1.size⟩
set_option maxRecDepth 100000 in
set_option maxHeartbeats 4000000 in
theorem rb_lf2 (a b : List UInt8) (hki : x.kind = 1) (hxa : x.k = a) (hxb : x.v = b) (hne : a = k) : Calls Try.prog 13 #[.pointer (some ⟨gp, 0, none⟩), .int .i64 (i : Int), .int .i64 (d : Int), .bool true, A8 (pb (k, v))] w fun e w' => ∃ u, e = .returned u ∧ By w' 0 w'.heap.size u (([1] ++ a) ++ v) ∧ Below w.heap.size w w' := by
  have hs' := hs
  obtain ⟨tl, hb, hnd⟩ := hs
  have hil : i < nds.length := (List.getElem?_eq_some_iff.1 hx).1
  have hli : (i : Int) < (nds.length : Int) := by omega
  have hxok := hnd.1 x (List.mem_of_getElem? hx)
  have hxl := NV.len hxok
  have hxr := hnd.row hx
  have p0 := hb.at_ (i := 0) rfl
  have zp := hb.lt
  have zn := hnd.lt
  have kc := rbW_can w (k, v)
  have hl64 : (pb (k, v)).length = 64 := PrOk.len ⟨hk, hv⟩
  have N1 := rbW_nd w (k, v) hxok
  have P1 := rbW_pair w (k, v) x
  have B1 := rbW_below w (k, v) x
  have n0 := N1.kind (i := 0) (x := x) rfl
  rw [hki] at n0
  simp only [Nat.zero_mul] at n0
  unfold rbW at n0
  obtain ⟨W0, hW0⟩ : ∃ y, y = rbW w (k, v) x := ⟨_, rfl⟩
  rw [← hW0] at N1 P1 B1
  have zN := N1.lt
  have zP := P1.lt
  have hal : a.length = 32 := by rw [← hxa]; exact hxok.1
  have hbl : b.length = 32 := by rw [← hxb]; exact hxok.2
  have hab : (a == k) = true := by simp [hne]
  have n1 := N1.key (i := 0) (x := x) rfl
  have rk := pair_key P1 ⟨hk, hv⟩
  have rv := pair_val P1 ⟨hk, hv⟩
  rw [hxa] at n1
  simp only [Nat.zero_mul, Nat.zero_add] at n1
  have hcan : canAt W0 ⟨w.heap.size + 1, 33, none⟩ 32 = true := N1.2.can (by simp [nflat, hxl])
  obtain ⟨W1_, hW1_⟩ : ∃ y, y = putAt W0 ⟨w.heap.size + 1, 33, none⟩ (c8 v) := ⟨_, rfl⟩
  have N2 : ND W1_ (w.heap.size + 1) [{ x with v := v }] [] := by
    refine ⟨by simp only [List.mem_singleton, forall_eq]; exact ⟨hxok.1, hv⟩, ?_⟩
    rw [hW1_]
    have h := N1.2.put (o := 33) (vs := c8 v) (by simp [nflat, hxl, hv])
    have e : (nflat [x] ++ []).take 33 ++ c8 v ++ (nflat [x] ++ []).drop (33 + (c8 v).length) = nflat [{ x with v := v }] ++ [] := by
      have h1 : (c8 x.k).length = 32 := by simp [hxok.1]
      have h2 : (c8 x.v).length = 32 := by simp [hxok.2]
      simp only [nflat, List.map_cons, List.map_nil, List.flatten_cons, List.flatten_nil, List.append_nil, NV.cells, length_c8, hv]
      rw [show (33 : Nat) = 32 + 1 from rfl, List.take_succ_cons, show 32 + 1 + 32 = (32 + 32) + 1 from rfl, List.drop_succ_cons]
      rw [List.take_left' h1, ← List.drop_drop, List.drop_left' h1, List.drop_left' h2]
      simp
    rw [e] at h
    exact h
  have b1 : Below w.heap.size W0 W1_ := by rw [hW1_]; exact below_putAt (Below.refl _ _) (show w.heap.size ≤ w.heap.size + 1 by omega) _
  have B2 := B1.trans b1
  have hfold := hW1_
  rw [hW0] at n1 rk rv hcan hfold
  have HF := Lib.hid hfold
  clear hfold
  have HF2 := Lib.hid (show W1_ = putAt (rbW w (k, v) x) ⟨w.heap.size + 1, 33, none⟩ (c8 v) from HF.out)
  unfold rbW at n1 rk rv hcan
  have zN2 := N2.lt
  clear hki hW1_
  go_enter Try.func13, Try.ntmps13
  go_wp2_with fail
  change (Code.wp _ _ _ _ (putAt (rbW w (k, v) x) ⟨w.heap.size + 1, 33, none⟩ (c8 v)))
  rw [← HF.out]
  clear hW0 n0 kc hxr p0 n1 rk rv hcan
  have S0 : Below W1_.heap.size W1_ W1_.drew := (Below.refl _ _).drew
  refine held_begin (fun W => Below W1_.heap.size W1_ W) (by kernel_rfl) ?_
  refine held_quiet (A := ?A1) [1, 2, 4, 5] (by kernel_rfl) (by kernel_rfl) rfl (by kernel_rfl) (by kernel_rfl) S0 (h := fun W hW => ?h1) (hr := ?r1)
  case h1 =>
    simp only [pick, List.getElem?_cons_zero, List.getElem?_cons_succ]
    repeat (go_big_quiet_step (fail))
    refine wpQuiet_nil ?_
    rfl
  case r1 =>
    refine held_one 0 (by kernel_rfl) (by rfl) (by rfl) (fun Q' hQ' => ?_)
    dsimp only [bare]
    go_wp2_with fail
    obtain ⟨W1, hW1⟩ : ∃ y, y = (W1_.alloc (Obj.cells #[.int .u8 1] 5)).drew := ⟨_, rfl⟩
    rw [← hW1]
    have S1 : Below W1_.heap.size W1_ W1 := by rw [hW1]; exact ((Below.refl _ _).alloc (Nat.le_refl _) _).drew
    have O1 : Own8 W1 W1_.heap.size (.slice (some ⟨W1_.heap.size, 0, none⟩) 1 1) [1] := by rw [hW1]; exact (Own8.build' W1_ [1] (by simp)).drewN 1
    have zz1 := S1.size
    refine hQ' _ _ S1 ?_
    clear hQ' hW1
    have yk : By W1 0 W1.heap.size (.slice (some ⟨w.heap.size + 1, 1, none⟩) 32 32) a := by have h := (N2.below S1 zN2).key (i := 0) (x := { x with v := v }) rfl; rw [show ({ x with v := v } : NV).k = a from hxa] at h; exact By.of_row (by simpa using h) (N2.below S1 zN2).lt (by omega)
    refine held_one 3 (by kernel_rfl) (by rfl) (by rfl) (fun Q' hQ' => ?_)
    dsimp only [bare]
    refine app8 _ W1_.heap.size _ _ rfl _ _ rfl rfl O1 _ rfl a 0 _ yk (by simp [hal]) zz1 ?_
    intro A2 c2 W2 hc21 hc22 O2 hB2 _ _
    obtain ⟨u2, hu2⟩ : ∃ u, u = Value.slice A2 ([1] ++ a).length c2 := ⟨_, rfl⟩
    rw [← hu2] at O2 ⊢
    clear hu2 hc21 hc22
    have S2 := S1.trans hB2
    have zz2 := S2.size
    go_wp2_with fail
    refine hQ' _ _ S2 ?_
    clear hQ'
    have yv : By W2 0 W2.heap.size (.slice (some ⟨w.heap.size + 1, 33, none⟩) 32 32) v := by have h := (N2.below S2 zN2).value (i := 0) (x := { x with v := v }) rfl; rw [show ({ x with v := v } : NV).v = v from rfl] at h; exact By.of_row (by simpa using h) (N2.below S2 zN2).lt (by omega)
    refine held_one 6 (by kernel_rfl) (by rfl) (by rfl) (fun Q' hQ' => ?_)
    dsimp only [bare]
    refine app8 _ W1_.heap.size _ _ rfl _ _ rfl rfl O2 _ rfl v 0 _ yv (by simp [hal, hv]) zz2 ?_
    intro A3 c3 W3 hc31 hc32 O3 hB3 _ _
    obtain ⟨u3, hu3⟩ : ∃ u, u = Value.slice A3 (([1] ++ a) ++ v).length c3 := ⟨_, rfl⟩
    rw [← hu3] at O3 ⊢
    clear hu3 hc31 hc32
    have S3 := S2.trans hB3
    go_wp2_with fail
    refine hQ' _ _ S3 ?_
    clear hQ'
    refine held_one 7 (by kernel_rfl) (by rfl) (by rfl) (fun Q' hQ' => ?_)
    dsimp only [bare]
    go_wp2_with fail
    refine hQ' _ _ S3 ?_
    clear hQ'
    refine held_end (by kernel_rfl) ?_
    go_wp2_with fail
    go_ret
    exact ⟨_, rfl, by simpa using (O3.by_).less (Nat.zero_le _), below_two B2 S3 B2.size⟩
set_option maxRecDepth 100000 in
set_option maxHeartbeats 4000000 in
theorem rb_nd0 (l r : Pt) (a b : Nat) (hki : x.kind = 2) (hxa : x.l = (a : Int)) (hxb : x.r = (b : Int)) (hd : d < 256) (f : Nat)
    (IHl : ∀ W, PS W gp gn nds c → Calls Try.prog 13 #[.pointer (some ⟨gp, 0, none⟩), .int .i64 (a : Int), .int .i64 ((d : Int) + 1), .bool false, A8 (pb (k, v))] W fun e w' => ∃ u, e = .returned u ∧ By w' 0 w'.heap.size u (rBytes k v f (d + 1) false l) ∧ Below W.heap.size W w')
    (IHr : ∀ W, PS W gp gn nds c → Calls Try.prog 13 #[.pointer (some ⟨gp, 0, none⟩), .int .i64 (b : Int), .int .i64 ((d : Int) + 1), .bool false, A8 (pb (k, v))] W fun e w' => ∃ u, e = .returned u ∧ By w' 0 w'.heap.size u (rBytes k v f (d + 1) false r) ∧ Below W.heap.size W w')
    (hll : (rBytes k v f (d + 1) false l).length ≤ 1000000) (hlr : (rBytes k v f (d + 1) false r).length ≤ 1000000) : Calls Try.prog 13 #[.pointer (some ⟨gp, 0, none⟩), .int .i64 (i : Int), .int .i64 (d : Int), .bool false, A8 (pb (k, v))] w fun e w' => ∃ u, e = .returned u ∧ By w' 0 w'.heap.size u (([2] ++ rBytes k v f (d + 1) false l) ++ rBytes k v f (d + 1) false r) ∧ Below w.heap.size w w' := by
  have hs' := hs
  obtain ⟨tl, hb, hnd⟩ := hs
  have hil : i < nds.length := (List.getElem?_eq_some_iff.1 hx).1
  have hli : (i : Int) < (nds.length : Int) := by omega
  have hxok := hnd.1 x (List.mem_of_getElem? hx)
  have hxl := NV.len hxok
  have hxr := hnd.row hx
  have p0 := hb.at_ (i := 0) rfl
  have zp := hb.lt
  have zn := hnd.lt
  have kc := rbW_can w (k, v)
  have hl64 : (pb (k, v)).length = 64 := PrOk.len ⟨hk, hv⟩
  have N1 := rbW_nd w (k, v) hxok
  have P1 := rbW_pair w (k, v) x
  have B1 := rbW_below w (k, v) x
  have n0 := N1.kind (i := 0) (x := x) rfl
  rw [hki] at n0
  simp only [Nat.zero_mul] at n0
  unfold rbW at n0
  obtain ⟨W0, hW0⟩ : ∃ y, y = rbW w (k, v) x := ⟨_, rfl⟩
  rw [← hW0] at N1 P1 B1
  have zN := N1.lt
  have zP := P1.lt
  have nl := N1.left (i := 0) (x := x) rfl
  have nr := N1.right (i := 0) (x := x) rfl
  rw [hxa] at nl
  rw [hxb] at nr
  simp only [Nat.zero_mul, Nat.zero_add] at nl nr
  have rk := pair_key P1 ⟨hk, hv⟩
  have rp := pair_all P1 ⟨hk, hv⟩
  have hs0 := hs'.below B1
  generalize rBytes k v f (d + 1) false l = ml at *
  generalize rBytes k v f (d + 1) false r = mr at *
  rw [hW0] at rk
  unfold rbW at rk
  clear hki
  go_enter Try.func13, Try.ntmps13
  have N2 := N1
  have P2 := P1
  have B2 := B1
  have hs2 := hs0
  have sz0 : W0.heap.size = w.heap.size + 1 + 1 := by rw [hW0]; simp [rbW]
  obtain ⟨W3, hW3⟩ : ∃ y, y = W0.alloc (Obj.cells #[.int .u8 2] 5) := ⟨_, rfl⟩
  have b3 : Below W0.heap.size W0 W3 := by rw [hW3]; exact (Below.refl _ _).alloc (Nat.le_refl _) _
  have O3 : Own8 W3 W0.heap.size (.slice (some ⟨W0.heap.size, 0, none⟩) 1 1) [2] := by rw [hW3]; exact Own8.build' W0 [2] (by simp)
  have nl2 := N2.left (i := 0) (x := x) rfl
  have rp2 := pair_all P2 ⟨hk, hv⟩
  rw [hxa] at nl2
  simp only [Nat.zero_mul, Nat.zero_add] at nl2
  have hs3 := hs2.below b3
  have zN2 := N2.lt
  have zP2 := P2.lt
  have HC := Lib.hid (IHl W3 hs3)
  have zz3 := b3.size
  clear IHl
  rw [hW0] at nl2 rp2
  have HF := Lib.hid (show W3 = (rbW w (k, v) x).alloc (Obj.cells #[.int .u8 2] 5) from by rw [hW3, hW0])
  unfold rbW at nl2 rp2
  rw [sz0] at O3
  clear hW3
  go_wp2_with fail
  change (Calls _ _ _ ((rbW w (k, v) x).alloc (Obj.cells #[.int .u8 2] 5)) _)
  rw [← HF.out]
  clear HF hW0 n0 kc hxr p0 rk nl rp nl2 rp2
  refine HC.out.mono ?_
  clear HC
  rintro e w4 ⟨u4, rfl, y4, b4⟩
  have O4 := O3.below b4 (Nat.le_refl _)
  have zz4 := b4.size
  have zzb : (w.heap.size + 1 + 1) ≤ w4.heap.size := by omega
  go_wp2_with (at_builtin; refine app8 _ (w.heap.size + 1 + 1) _ _ rfl _ _ rfl rfl O4 _ rfl ml 0 _ y4 (by simp; omega) zzb ?_; intro A5 c5 w5 hc51 hc52 O5 hB5 _ _; obtain ⟨u5, hu5⟩ : ∃ u, u = Value.slice A5 ([2] ++ ml).length c5 := ⟨_, rfl⟩; rw [← hu5] at O5 ⊢; clear hu5 hc51 hc52; have b35 : Below W0.heap.size W0 w5 := (b3.trans (b4.mono zz3)).trans (hB5.mono (by omega)); have N5 := N2.below b35 zN2; have P5 := P2.below b35 zP2; have nr5 := N5.right (i := 0) (x := x) rfl; rw [hxb] at nr5; simp only [Nat.zero_mul, Nat.zero_add] at nr5; have rp5 := pair_all P5 ⟨hk, hv⟩; have HC5 := Lib.hid (IHr w5 (hs2.below b35)); have zz5 := b35.size; clear IHr)
  refine HC5.out.mono ?_
  clear HC5
  rintro e w6 ⟨u6, rfl, y6, b6⟩
  have O6 := O5.below b6 (Nat.le_refl _)
  have zz6 := b6.size
  have zzc : (w.heap.size + 1 + 1) ≤ w6.heap.size := by omega
  go_wp2_with (at_builtin; refine app8 _ (w.heap.size + 1 + 1) _ _ rfl _ _ rfl rfl O6 _ rfl mr 0 _ y6 (by simp; omega) zzc ?_; intro A7 c7 w7 hc71 hc72 O7 hB7 _ _; obtain ⟨u7, hu7⟩ : ∃ u, u = Value.slice A7 (([2] ++ ml) ++ mr).length c7 := ⟨_, rfl⟩; rw [← hu7] at O7 ⊢; clear hu7 hc71 hc72)
  go_ret
  exact ⟨_, rfl, by simpa using (O7.by_).less (Nat.zero_le _), below_two B2 ((b35.trans (b6.mono zz5)).trans (hB7.mono (by omega))) B2.size⟩
set_option maxRecDepth 100000 in
set_option maxHeartbeats 4000000 in
theorem rb_ndl (l r : Pt) (a b : Nat) (hki : x.kind = 2) (hxa : x.l = (a : Int)) (hxb : x.r = (b : Int)) (hd : d < 256) (f : Nat)
    (IHl : ∀ W, PS W gp gn nds c → Calls Try.prog 13 #[.pointer (some ⟨gp, 0, none⟩), .int .i64 (a : Int), .int .i64 ((d : Int) + 1), .bool true, A8 (pb (k, v))] W fun e w' => ∃ u, e = .returned u ∧ By w' 0 w'.heap.size u (rBytes k v f (d + 1) true l) ∧ Below W.heap.size W w')
    (IHr : ∀ W, PS W gp gn nds c → Calls Try.prog 13 #[.pointer (some ⟨gp, 0, none⟩), .int .i64 (b : Int), .int .i64 ((d : Int) + 1), .bool false, A8 (pb (k, v))] W fun e w' => ∃ u, e = .returned u ∧ By w' 0 w'.heap.size u (rBytes k v f (d + 1) false r) ∧ Below W.heap.size W w')
    (hll : (rBytes k v f (d + 1) true l).length ≤ 1000000) (hlr : (rBytes k v f (d + 1) false r).length ≤ 1000000) (hbit : kbit k d = false) : Calls Try.prog 13 #[.pointer (some ⟨gp, 0, none⟩), .int .i64 (i : Int), .int .i64 (d : Int), .bool true, A8 (pb (k, v))] w fun e w' => ∃ u, e = .returned u ∧ By w' 0 w'.heap.size u (([2] ++ rBytes k v f (d + 1) true l) ++ rBytes k v f (d + 1) false r) ∧ Below w.heap.size w w' := by
  have hs' := hs
  obtain ⟨tl, hb, hnd⟩ := hs
  have hil : i < nds.length := (List.getElem?_eq_some_iff.1 hx).1
  have hli : (i : Int) < (nds.length : Int) := by omega
  have hxok := hnd.1 x (List.mem_of_getElem? hx)
  have hxl := NV.len hxok
  have hxr := hnd.row hx
  have p0 := hb.at_ (i := 0) rfl
  have zp := hb.lt
  have zn := hnd.lt
  have kc := rbW_can w (k, v)
  have hl64 : (pb (k, v)).length = 64 := PrOk.len ⟨hk, hv⟩
  have N1 := rbW_nd w (k, v) hxok
  have P1 := rbW_pair w (k, v) x
  have B1 := rbW_below w (k, v) x
  have n0 := N1.kind (i := 0) (x := x) rfl
  rw [hki] at n0
  simp only [Nat.zero_mul] at n0
  unfold rbW at n0
  obtain ⟨W0, hW0⟩ : ∃ y, y = rbW w (k, v) x := ⟨_, rfl⟩
  rw [← hW0] at N1 P1 B1
  have zN := N1.lt
  have zP := P1.lt
  have nl := N1.left (i := 0) (x := x) rfl
  have nr := N1.right (i := 0) (x := x) rfl
  rw [hxa] at nl
  rw [hxb] at nr
  simp only [Nat.zero_mul, Nat.zero_add] at nl nr
  have rk := pair_key P1 ⟨hk, hv⟩
  have rp := pair_all P1 ⟨hk, hv⟩
  have hs0 := hs'.below B1
  generalize rBytes k v f (d + 1) true l = ml at *
  generalize rBytes k v f (d + 1) false r = mr at *
  rw [hW0] at rk
  unfold rbW at rk
  clear hki
  go_enter Try.func13, Try.ntmps13
  go_wp2_with fail
  change (Calls _ _ _ (rbW w (k, v) x) _)
  rw [← hW0]
  refine (refbit_any k d hk hd W0).mono ?_
  rw [hbit]
  rintro e w1 ⟨rfl, b1⟩
  simp only [bitInt]
  have N2 := N1.below b1 zN
  have P2 := P1.below b1 zP
  have B2 := below_two B1 b1 B1.size
  have hs2 := hs0.below b1
  have zz1 := b1.size
  clear hW0 n0 kc hxr p0 rk hbit nl nr rp
  obtain ⟨W3, hW3⟩ : ∃ y, y = w1.alloc (Obj.cells #[.int .u8 2] 5) := ⟨_, rfl⟩
  have b3 : Below w1.heap.size w1 W3 := by rw [hW3]; exact (Below.refl _ _).alloc (Nat.le_refl _) _
  have O3 : Own8 W3 w1.heap.size (.slice (some ⟨w1.heap.size, 0, none⟩) 1 1) [2] := by rw [hW3]; exact Own8.build' w1 [2] (by simp)
  have nl2 := N2.left (i := 0) (x := x) rfl
  have rp2 := pair_all P2 ⟨hk, hv⟩
  rw [hxa] at nl2
  simp only [Nat.zero_mul, Nat.zero_add] at nl2
  have hs3 := hs2.below b3
  have zN2 := N2.lt
  have zP2 := P2.lt
  have HC := Lib.hid (IHl W3 hs3)
  have zz3 := b3.size
  clear IHl
  go_wp2_with fail
  rw [← hW3]
  clear hW3 nl2 rp2
  refine HC.out.mono ?_
  clear HC
  rintro e w4 ⟨u4, rfl, y4, b4⟩
  have O4 := O3.below b4 (Nat.le_refl _)
  have zz4 := b4.size
  have zzb : w1.heap.size ≤ w4.heap.size := by omega
  go_wp2_with (at_builtin; refine app8 _ w1.heap.size _ _ rfl _ _ rfl rfl O4 _ rfl ml 0 _ y4 (by simp; omega) zzb ?_; intro A5 c5 w5 hc51 hc52 O5 hB5 _ _; obtain ⟨u5, hu5⟩ : ∃ u, u = Value.slice A5 ([2] ++ ml).length c5 := ⟨_, rfl⟩; rw [← hu5] at O5 ⊢; clear hu5 hc51 hc52; have b35 : Below w1.heap.size w1 w5 := (b3.trans (b4.mono zz3)).trans (hB5.mono (by omega)); have N5 := N2.below b35 zN2; have P5 := P2.below b35 zP2; have nr5 := N5.right (i := 0) (x := x) rfl; rw [hxb] at nr5; simp only [Nat.zero_mul, Nat.zero_add] at nr5; have rp5 := pair_all P5 ⟨hk, hv⟩; have HC5 := Lib.hid (IHr w5 (hs2.below b35)); have zz5 := b35.size; clear IHr)
  refine HC5.out.mono ?_
  clear HC5
  rintro e w6 ⟨u6, rfl, y6, b6⟩
  have O6 := O5.below b6 (Nat.le_refl _)
  have zz6 := b6.size
  have zzc : w1.heap.size ≤ w6.heap.size := by omega
  go_wp2_with (at_builtin; refine app8 _ w1.heap.size _ _ rfl _ _ rfl rfl O6 _ rfl mr 0 _ y6 (by simp; omega) zzc ?_; intro A7 c7 w7 hc71 hc72 O7 hB7 _ _; obtain ⟨u7, hu7⟩ : ∃ u, u = Value.slice A7 (([2] ++ ml) ++ mr).length c7 := ⟨_, rfl⟩; rw [← hu7] at O7 ⊢; clear hu7 hc71 hc72)
  go_ret
  exact ⟨_, rfl, by simpa using (O7.by_).less (Nat.zero_le _), below_two B2 ((b35.trans (b6.mono zz5)).trans (hB7.mono (by omega))) B2.size⟩
set_option maxRecDepth 100000 in
set_option maxHeartbeats 4000000 in
theorem rb_ndr (l r : Pt) (a b : Nat) (hki : x.kind = 2) (hxa : x.l = (a : Int)) (hxb : x.r = (b : Int)) (hd : d < 256) (f : Nat)
    (IHl : ∀ W, PS W gp gn nds c → Calls Try.prog 13 #[.pointer (some ⟨gp, 0, none⟩), .int .i64 (a : Int), .int .i64 ((d : Int) + 1), .bool false, A8 (pb (k, v))] W fun e w' => ∃ u, e = .returned u ∧ By w' 0 w'.heap.size u (rBytes k v f (d + 1) false l) ∧ Below W.heap.size W w')
    (IHr : ∀ W, PS W gp gn nds c → Calls Try.prog 13 #[.pointer (some ⟨gp, 0, none⟩), .int .i64 (b : Int), .int .i64 ((d : Int) + 1), .bool true, A8 (pb (k, v))] W fun e w' => ∃ u, e = .returned u ∧ By w' 0 w'.heap.size u (rBytes k v f (d + 1) true r) ∧ Below W.heap.size W w')
    (hll : (rBytes k v f (d + 1) false l).length ≤ 1000000) (hlr : (rBytes k v f (d + 1) true r).length ≤ 1000000) (hbit : kbit k d = true) : Calls Try.prog 13 #[.pointer (some ⟨gp, 0, none⟩), .int .i64 (i : Int), .int .i64 (d : Int), .bool true, A8 (pb (k, v))] w fun e w' => ∃ u, e = .returned u ∧ By w' 0 w'.heap.size u (([2] ++ rBytes k v f (d + 1) false l) ++ rBytes k v f (d + 1) true r) ∧ Below w.heap.size w w' := by
  have hs' := hs
  obtain ⟨tl, hb, hnd⟩ := hs
  have hil : i < nds.length := (List.getElem?_eq_some_iff.1 hx).1
  have hli : (i : Int) < (nds.length : Int) := by omega
  have hxok := hnd.1 x (List.mem_of_getElem? hx)
  have hxl := NV.len hxok
  have hxr := hnd.row hx
  have p0 := hb.at_ (i := 0) rfl
  have zp := hb.lt
  have zn := hnd.lt
  have kc := rbW_can w (k, v)
  have hl64 : (pb (k, v)).length = 64 := PrOk.len ⟨hk, hv⟩
  have N1 := rbW_nd w (k, v) hxok
  have P1 := rbW_pair w (k, v) x
  have B1 := rbW_below w (k, v) x
  have n0 := N1.kind (i := 0) (x := x) rfl
  rw [hki] at n0
  simp only [Nat.zero_mul] at n0
  unfold rbW at n0
  obtain ⟨W0, hW0⟩ : ∃ y, y = rbW w (k, v) x := ⟨_, rfl⟩
  rw [← hW0] at N1 P1 B1
  have zN := N1.lt
  have zP := P1.lt
  have nl := N1.left (i := 0) (x := x) rfl
  have nr := N1.right (i := 0) (x := x) rfl
  rw [hxa] at nl
  rw [hxb] at nr
  simp only [Nat.zero_mul, Nat.zero_add] at nl nr
  have rk := pair_key P1 ⟨hk, hv⟩
  have rp := pair_all P1 ⟨hk, hv⟩
  have hs0 := hs'.below B1
  generalize rBytes k v f (d + 1) false l = ml at *
  generalize rBytes k v f (d + 1) true r = mr at *
  rw [hW0] at rk
  unfold rbW at rk
  clear hki
  go_enter Try.func13, Try.ntmps13
  go_wp2_with fail
  change (Calls _ _ _ (rbW w (k, v) x) _)
  rw [← hW0]
  refine (refbit_any k d hk hd W0).mono ?_
  rw [hbit]
  rintro e w1 ⟨rfl, b1⟩
  simp only [bitInt]
  have N2 := N1.below b1 zN
  have P2 := P1.below b1 zP
  have B2 := below_two B1 b1 B1.size
  have hs2 := hs0.below b1
  have zz1 := b1.size
  clear hW0 n0 kc hxr p0 rk hbit nl nr rp
  obtain ⟨W3, hW3⟩ : ∃ y, y = w1.alloc (Obj.cells #[.int .u8 2] 5) := ⟨_, rfl⟩
  have b3 : Below w1.heap.size w1 W3 := by rw [hW3]; exact (Below.refl _ _).alloc (Nat.le_refl _) _
  have O3 : Own8 W3 w1.heap.size (.slice (some ⟨w1.heap.size, 0, none⟩) 1 1) [2] := by rw [hW3]; exact Own8.build' w1 [2] (by simp)
  have nl2 := N2.left (i := 0) (x := x) rfl
  have rp2 := pair_all P2 ⟨hk, hv⟩
  rw [hxa] at nl2
  simp only [Nat.zero_mul, Nat.zero_add] at nl2
  have hs3 := hs2.below b3
  have zN2 := N2.lt
  have zP2 := P2.lt
  have HC := Lib.hid (IHl W3 hs3)
  have zz3 := b3.size
  clear IHl
  go_wp2_with fail
  rw [← hW3]
  clear hW3 nl2 rp2
  refine HC.out.mono ?_
  clear HC
  rintro e w4 ⟨u4, rfl, y4, b4⟩
  have O4 := O3.below b4 (Nat.le_refl _)
  have zz4 := b4.size
  have zzb : w1.heap.size ≤ w4.heap.size := by omega
  go_wp2_with (at_builtin; refine app8 _ w1.heap.size _ _ rfl _ _ rfl rfl O4 _ rfl ml 0 _ y4 (by simp; omega) zzb ?_; intro A5 c5 w5 hc51 hc52 O5 hB5 _ _; obtain ⟨u5, hu5⟩ : ∃ u, u = Value.slice A5 ([2] ++ ml).length c5 := ⟨_, rfl⟩; rw [← hu5] at O5 ⊢; clear hu5 hc51 hc52; have b35 : Below w1.heap.size w1 w5 := (b3.trans (b4.mono zz3)).trans (hB5.mono (by omega)); have N5 := N2.below b35 zN2; have P5 := P2.below b35 zP2; have nr5 := N5.right (i := 0) (x := x) rfl; rw [hxb] at nr5; simp only [Nat.zero_mul, Nat.zero_add] at nr5; have rp5 := pair_all P5 ⟨hk, hv⟩; have HC5 := Lib.hid (IHr w5 (hs2.below b35)); have zz5 := b35.size; clear IHr)
  refine HC5.out.mono ?_
  clear HC5
  rintro e w6 ⟨u6, rfl, y6, b6⟩
  have O6 := O5.below b6 (Nat.le_refl _)
  have zz6 := b6.size
  have zzc : w1.heap.size ≤ w6.heap.size := by omega
  go_wp2_with (at_builtin; refine app8 _ w1.heap.size _ _ rfl _ _ rfl rfl O6 _ rfl mr 0 _ y6 (by simp; omega) zzc ?_; intro A7 c7 w7 hc71 hc72 O7 hB7 _ _; obtain ⟨u7, hu7⟩ : ∃ u, u = Value.slice A7 (([2] ++ ml) ++ mr).length c7 := ⟨_, rfl⟩; rw [← hu7] at O7 ⊢; clear hu7 hc71 hc72)
  go_ret
  exact ⟨_, rfl, by simpa using (O7.by_).less (Nat.zero_le _), below_two B2 ((b35.trans (b6.mono zz5)).trans (hB7.mono (by omega))) B2.size⟩
end
theorem rBytes_length {k v : List UInt8} (hk : k.length = 32) (hv : v.length = 32) : ∀ (f d : Nat) (put : Bool) (p : Pt), p.Wf → (rBytes k v f d put p).length ≤ p.bytes.length + (if put then 131 + 2 * f else 0) := by
  intro f
  induction f with
  | zero =>
    intro d put p hw
    cases p with
    | e => cases put <;> simp [rBytes, Pt.bytes, hk, hv]
    | hd h => simp [rBytes, Pt.bytes]
    | nd l r => simp [rBytes]
    | lf a b =>
      cases put
      · simp [rBytes, Pt.bytes]
      · simp only [rBytes, if_true]
        split
        · simp [Pt.bytes, hw.1, hw.2, hv] <;> omega
        · have := twoB_length hw.1 hw.2 hk hv 0 d; simp only [Nat.mul_zero, Nat.add_zero] at this ⊢; omega
  | succ f ih =>
    intro d put p hw
    cases p with
    | e => cases put <;> simp [rBytes, Pt.bytes, hk, hv]; omega
    | hd h => simp [rBytes, Pt.bytes]
    | lf a b =>
      cases put
      · simp [rBytes, Pt.bytes]
      · simp only [rBytes, if_true]
        split
        · simp [Pt.bytes, hw.1, hw.2, hv] <;> omega
        · have := twoB_length hw.1 hw.2 hk hv (f + 1) d; omega
    | nd l r =>
      simp only [rBytes, Pt.bytes, List.length_append]
      have h1 := ih (d + 1) (put && !kbit k d) l hw.1
      have h2 := ih (d + 1) (put && kbit k d) r hw.2
      cases put
      · simp at h1 h2 ⊢; omega
      · cases hb : kbit k d <;> simp [hb] at h1 h2 ⊢ <;> omega
theorem rbytes_any (k v : List UInt8) (hk : k.length = 32) (hv : v.length = 32) (gp gn c : Nat) (nds : List NV) (hn : nds.length ≤ 1000000) : ∀ (f d : Nat) (p : Pt) (i : Nat) (put : Bool) (P : Nat → Bool) (w : World), f + d = 256 → p.Ok d P → (put = true → ∀ i, i < d → kbit k i = P i) → NAt nds i p → PS w gp gn nds c → p.bytes.length ≤ 100000 →
    Calls Try.prog 13 #[.pointer (some ⟨gp, 0, none⟩), .int .i64 (i : Int), .int .i64 (d : Int), .bool put, A8 (pb (k, v))] w fun e w' => ∃ u, e = .returned u ∧ By w' 0 w'.heap.size u (rBytes k v f d put p) ∧ Below w.heap.size w w' := by
  intro f
  have leafy : ∀ (f d : Nat) (p : Pt) (i : Nat) (put : Bool) (P : Nat → Bool) (w : World), f + d = 256 → p.Ok d P → (put = true → ∀ i, i < d → kbit k i = P i) → NAt nds i p → PS w gp gn nds c → (∀ l r, p ≠ .nd l r) →
    Calls Try.prog 13 #[.pointer (some ⟨gp, 0, none⟩), .int .i64 (i : Int), .int .i64 (d : Int), .bool put, A8 (pb (k, v))] w fun e w' => ∃ u, e = .returned u ∧ By w' 0 w'.heap.size u (rBytes k v f d put p) ∧ Below w.heap.size w w' := by
    intro f d p i put P w hfd ok ha hat hs hnd
    cases p with
    | nd l r => exact absurd rfl (hnd l r)
    | e =>
      obtain ⟨x, hx, hki⟩ := hat
      cases put
      · have h := rb_e0 k v hk hv gp gn c nds i d w hs x hx hki
        cases f <;> exact h
      · have h := rb_e1 k v hk hv gp gn c nds i d w hs x hx hki
        cases f <;> exact h
    | hd h =>
      obtain ⟨x, hx, hki, hxv⟩ := hat
      have h := rb_hd k v hk hv gp gn c nds i d w hs x hx put h hki hxv
      cases f <;> exact h
    | lf a b =>
      obtain ⟨x, hx, hki, hxa, hxb⟩ := hat
      cases put
      · have h := rb_lf0 k v hk hv gp gn c nds i d w hs x hx a b hki hxa hxb
        cases f <;> exact h
      · by_cases hak : a = k
        · have h := rb_lf2 k v hk hv gp gn c nds i d w hs x hx a b hki hxa hxb hak
          have e : rBytes k v f d true (.lf a b) = ([1] ++ a) ++ v := by cases f <;> simp [rBytes, hak]
          rw [e]; exact h
        · have h := rb_lf1 k v hk hv gp gn c nds i d w hs x hx a b hki hxa hxb hak f hfd (fun i hi => by rw [ok.2.2 i hi, ha rfl i hi])
          have e : rBytes k v f d true (.lf a b) = twoB a b k v f d := by cases f <;> simp [rBytes, hak]
          rw [e]; exact h
  induction f with
  | zero =>
    intro d p i put P w hfd ok ha hat hs hlen
    cases p with
    | nd l r => exact absurd ok.1 (by omega)
    | e => exact leafy 0 d _ i put P w hfd ok ha hat hs (fun _ _ h => by cases h)
    | lf a b => exact leafy 0 d _ i put P w hfd ok ha hat hs (fun _ _ h => by cases h)
    | hd h => exact leafy 0 d _ i put P w hfd ok ha hat hs (fun _ _ h => by cases h)
  | succ f ih =>
    intro d p i put P w hfd ok ha hat hs hlen
    cases p with
    | e => exact leafy (f + 1) d _ i put P w hfd ok ha hat hs (fun _ _ h => by cases h)
    | lf a b => exact leafy (f + 1) d _ i put P w hfd ok ha hat hs (fun _ _ h => by cases h)
    | hd h => exact leafy (f + 1) d _ i put P w hfd ok ha hat hs (fun _ _ h => by cases h)
    | nd l r =>
      obtain ⟨x, a, b, hx, hki, hxa, hxb, hal, har⟩ := hat
      simp only [Pt.bytes, List.length_append, List.length_cons, List.length_nil] at hlen
      have hd1 : (d : Int) + 1 = ((d + 1 : Nat) : Int) := by omega
      have hb1 : ∀ put, (rBytes k v f (d + 1) put l).length ≤ 1000000 := fun put => by
        have := rBytes_length hk hv f (d + 1) put l ok.2.1.wf
        split at this <;> omega
      have hb2 : ∀ put, (rBytes k v f (d + 1) put r).length ≤ 1000000 := fun put => by
        have := rBytes_length hk hv f (d + 1) put r ok.2.2.wf
        split at this <;> omega
      cases put
      · refine rb_nd0 k v hk hv gp gn c nds i d w hs x hx l r a b hki hxa hxb ok.1 f (fun W hW => ?_) (fun W hW => ?_) (hb1 _) (hb2 _)
        · rw [hd1]; exact ih (d + 1) l a false _ W (by omega) ok.2.1 (fun h => by cases h) hal hW (by omega)
        · rw [hd1]; exact ih (d + 1) r b false _ W (by omega) ok.2.2 (fun h => by cases h) har hW (by omega)
      · cases hbit : kbit k d
        · have e : rBytes k v (f + 1) d true (.nd l r) = ([2] ++ rBytes k v f (d + 1) true l) ++ rBytes k v f (d + 1) false r := by simp [rBytes, hbit]
          rw [e]
          refine rb_ndl k v hk hv gp gn c nds i d w hs x hx l r a b hki hxa hxb ok.1 f (fun W hW => ?_) (fun W hW => ?_) (hb1 _) (hb2 _) hbit
          · rw [hd1]; exact ih (d + 1) l a true _ W (by omega) ok.2.1 (fun _ => upd_way (ha rfl) hbit) hal hW (by omega)
          · rw [hd1]; exact ih (d + 1) r b false _ W (by omega) ok.2.2 (fun h => by cases h) har hW (by omega)
        · have e : rBytes k v (f + 1) d true (.nd l r) = ([2] ++ rBytes k v f (d + 1) false l) ++ rBytes k v f (d + 1) true r := by simp [rBytes, hbit]
          rw [e]
          refine rb_ndr k v hk hv gp gn c nds i d w hs x hx l r a b hki hxa hxb ok.1 f (fun W hW => ?_) (fun W hW => ?_) (hb1 _) (hb2 _) hbit
          · rw [hd1]; exact ih (d + 1) l a false _ W (by omega) ok.2.1 (fun h => by cases h) hal hW (by omega)
          · rw [hd1]; exact ih (d + 1) r b true _ W (by omega) ok.2.2 (fun _ => upd_way (ha rfl) hbit) har hW (by omega)
end Go.Proofs.Ytlegpkdighoflaa
