/- witanlaw10.WitnessLeaf answers true. -/
import Derived.Test.YtpalomkcgfalnaaWitK
import Derived.Test.YtpalomkcgfalnaaWitL
import Derived.Test.YtpalomkcgfalnaaMapT
set_option linter.unusedVariables false
set_option linter.unusedSimpArgs false
namespace Go.Proofs.Ytpalomkcgfalnaa
open Go Go.RowKit Sh
theorem get_both {T : Tr} (ok : Okt T) (k : List UInt8) : ∃ u b, u.length = 32 ∧ getRes (T.look k 0) = .tuple #[A8 u, .bool b] ∧ lookRes (T.look k 0) = (u, b, 0) ∧ (T.look k 0).isSome = b := by
  cases h : T.look k 0 with
  | none => exact ⟨z8 32, false, by simp, rfl, rfl, rfl⟩
  | some v => exact ⟨v, true, (Ok.keys ok _ ((look_some ok).1 h)).2.1, rfl, rfl, rfl⟩
theorem cells_of {w : World} {g : Nat} {t : TypeId} {a b : Value} (h : Bk w g t [a, b]) : w.cell? ⟨g, 0, none⟩ = some a ∧ w.cell? ⟨g, 1, none⟩ = some b := ⟨h.at_ rfl, h.at_ rfl⟩
theorem Bk.row32 {w : World} {g : Nat} {t : TypeId} {l : List UInt8} (h : Bk w g t (c8 l)) (hl : l.length = 32) : rowAt w ⟨g, 0, none⟩ 32 = some (c8 l) := by have := h.rows; rwa [length_c8, hl] at this
def WlF (w : World) (gk gx gT : Nat) (k x : List UInt8) (T : Tr) (p : Option Addr) (W : World) : Prop :=
  Bk W gk 25 (c8 k) ∧ Bk W gx 25 (c8 x) ∧ Bk W gT 40 [.pointer p, .int .i64 0] ∧ At W W.heap.size T (.pointer p) ∧ Below w.heap.size w W
theorem WlF.more {w : World} {gk gx gT : Nat} {k x : List UInt8} {T : Tr} {p : Option Addr} {W W' : World} (h : WlF w gk gx gT k x T p W) (hb : Below W.heap.size W W') : WlF w gk gx gT k x T p W' :=
  ⟨h.1.below hb h.1.lt, h.2.1.below hb h.2.1.lt, h.2.2.1.below hb h.2.2.1.lt, (h.2.2.2.1.below hb).more hb.size, below_two h.2.2.2.2 hb h.2.2.2.2.size⟩
set_option maxRecDepth 100000 in
set_option maxHeartbeats 4000000 in
theorem witLeaf_any (v : Value) (L : List Pr) (k x : List UInt8) (w : World) (hv : Ps w 0 w.heap.size v L) (hk : k.length = 32) (hx : x.length = 32) :
    Calls Try.prog 14 #[v, A8 k, A8 x] w fun e w' => e = .returned (.bool true) ∧ Below w.heap.size w w' := by
  have hlok := hv.1
  have HPs0 := Lib.hid hv
  clear hv
  obtain ⟨W0, hW0⟩ : ∃ y, y = (w.alloc (Obj.cells (c8 k).toArray 25)).alloc (Obj.cells (c8 x).toArray 25) := ⟨_, rfl⟩
  have B0 : Below w.heap.size w W0 := by rw [hW0]; exact ((Below.refl _ _).alloc (Nat.le_refl _) _).alloc (by simp) _
  have K0 : Bk W0 w.heap.size 25 (c8 k) := by rw [hW0]; exact (Bk.new w _ _).alloc _
  have X0 : Bk W0 (w.heap.size + 1) 25 (c8 x) := by rw [hW0]; simpa using Bk.new (w.alloc (Obj.cells (c8 k).toArray 25)) 25 (c8 x)
  go_enter Try.func14, Try.ntmps14
  go_wp2_with fail
  rw [← hW0]
  clear hW0
  obtain ⟨gk, hgk⟩ : ∃ g, g = w.heap.size := ⟨_, rfl⟩
  rw [← hgk] at K0 X0 ⊢
  have zgk : w.heap.size ≤ gk := by omega
  obtain ⟨gx, hgx⟩ : ∃ g, g = gk + 1 := ⟨_, rfl⟩
  rw [← hgx] at X0 ⊢
  clear hgk hgx
  refine (first10 W0).mono ?_
  rintro e w1 ⟨rfl, b1⟩
  have K1 := K0.below b1 K0.lt
  have X1 := X0.below b1 X0.lt
  have B1 := below_two B0 b1 B0.size
  clear K0 X0 B0 b1
  go_wp2_with fail
  refine (grown_any v L w1 ((HPs0.out.below B1).more B1.size)).mono ?_
  rintro e w2 ⟨p, u1, rfl, hAt2, _, b2⟩
  have okT : Okt (puts (L.take 25) .e) := Okt.puts (fun q hq => hlok q (List.mem_of_mem_take hq)) Okt.nil
  have lenT : (puts (L.take 25) .e).len ≤ 25 := by
    have := len_puts (l := L.take 25) (fun q hq => hlok q (List.mem_of_mem_take hq)) Okt.nil
    have h2 : (L.take 25).length ≤ 25 := by simp; omega
    simp only [Tr.len] at this
    omega
  generalize puts (L.take 25) .e = T at *
  have K2 := K1.below b2 K1.lt
  have X2 := X1.below b2 X1.lt
  have B2 := below_two B1 b2 B1.size
  obtain ⟨W3, hW3⟩ : ∃ y, y = w2.alloc (Obj.cells #[.pointer p, .int .i64 0] 40) := ⟨_, rfl⟩
  have b3 : Below w2.heap.size w2 W3 := by rw [hW3]; exact (Below.refl _ _).alloc (Nat.le_refl _) _
  have T3 : Bk W3 w2.heap.size 40 [.pointer p, .int .i64 0] := by rw [hW3]; exact Bk.new w2 _ [_, _]
  have K3 := K2.below b3 K2.lt
  have X3 := X2.below b3 X2.lt
  have At3 := (hAt2.below b3).more b3.size
  have B3 := below_two B2 b3 B2.size
  have rk3 := K3.row32 hk
  rw [hW3] at rk3
  obtain ⟨u, bl, hu, hgr, hlr, hiS⟩ := get_both okT k
  have HGR := Lib.hid hgr
  have HLR := Lib.hid hlr
  have HIS := Lib.hid hiS
  clear K1 X1 B1 b2 K2 X2 B2 hgr hlr hiS hAt2
  have zk3 := K3.lt
  go_wp2_with fail
  rw [← hW3]
  clear hW3 rk3
  refine (tget_any k hk 0 T P0 (.pointer p) W3 (by omega) okT At3).mono ?_
  rw [HGR.out]
  rintro e w4 ⟨rfl, b4⟩
  have K4 := K3.below b4 K3.lt
  have X4 := X3.below b4 X3.lt
  have T4 := T3.below b4 T3.lt
  have At4 := (At3.below b4).more b4.size
  have B4 := below_two B3 b4 B3.size
  obtain ⟨gT, hgT⟩ : ∃ g, g = w2.heap.size := ⟨_, rfl⟩
  rw [← hgT] at T4 T3 b3 ⊢
  clear hgT b3
  obtain ⟨W5, hW5⟩ : ∃ y, y = putAt (w4.alloc (Obj.cells (c8 (z8 32)).toArray 25)) ⟨w4.heap.size, 0, none⟩ (c8 u) := ⟨_, rfl⟩
  have b5 : Below w4.heap.size w4 W5 := by rw [hW5]; exact below_putAt ((Below.refl _ _).alloc (Nat.le_refl _) _) (Nat.le_refl _) _
  have z5 : W5.heap.size = w4.heap.size + 1 := by rw [hW5]; simp
  obtain ⟨W6, hW6⟩ : ∃ y, y = W5.alloc (Obj.cells (c8 k).toArray 25) := ⟨_, rfl⟩
  have b6 : Below W5.heap.size W5 W6 := by rw [hW6]; exact (Below.refl _ _).alloc (Nat.le_refl _) _
  have H6 : Bk W6 (w4.heap.size + 1) 25 (c8 k) := by rw [hW6, ← z5]; exact Bk.new W5 _ _
  have b46 := below_two b5 b6 b5.size
  have K6 := K4.below b46 K4.lt
  have X6 := X4.below b46 X4.lt
  have T6 := T4.below b46 T4.lt
  have At6 := (At4.below b46).more b46.size
  have B6 := below_two B4 b46 B4.size
  have c5 := cells_of (T4.below b5 T4.lt)
  have rk5 := (K4.below b5 K4.lt).row32 hk
  obtain ⟨d50, d51⟩ := c5
  rw [hW5] at d50 d51 rk5
  have hc := pcut_any T P0 okT (by omega) (.pointer p) _ [k] W6 (by simp) At6 (Hs.one hk H6)
  have hvw := view_cut T [k] 0
  have hkn := knows_cut T [k] 0 (List.mem_singleton.2 rfl)
  generalize T.cut [k] 0 = q at *
  have hqok := hvw.ok okT
  have hget := view_get hvw hkn
  rw [HLR.out] at hget
  obtain ⟨q2, hput, hvw2, hkn2⟩ := view_put (v := x) hk 256 0 q T P0 rfl (fun i hi => by omega) okT hvw hkn
  change View q2 (put1 T k x) at hvw2
  have okT2 := okT.put hk hx
  have hget2 := view_get hvw2 (hkn2 k hkn)
  have hqok2 := hvw2.ok okT2
  rw [look_put1 okT hk hx, if_pos rfl] at hget2
  have hlen2 := len_put1_eq (v := x) okT hk
  have HL2 := Lib.hid hlen2
  have HG := Lib.hid hget
  have HG2 := Lib.hid hget2
  have HP := Lib.hid hput
  have HR2 := Lib.hid hvw2.root
  have HC := Lib.hid hc
  clear hget hget2 hput hc hkn hkn2 hvw hvw2 hlen2 b4 b5 b6 b46 K4 X4 T4 At4 B4 At3 K3 X3 T3 B3 zk3
  go_wp2_with fail
  rw [← hW5, ← hW6]
  clear hW5 hW6 rk5 d50 d51 z5
  have F6 : WlF w gk gx gT k x T p W6 := ⟨K6, X6, T6, At6, B6⟩
  clear K6 X6 T6 At6 B6 H6
  refine HC.out.mono ?_
  clear HC
  rintro e w7 ⟨rfl, b7⟩
  have F7 := F6.more b7
  obtain ⟨W8, hW8⟩ : ∃ y, y = w7.alloc (Obj.cells #[q.val] 73) := ⟨_, rfl⟩
  have b8 : Below w7.heap.size w7 W8 := by rw [hW8]; exact (Below.refl _ _).alloc (Nat.le_refl _) _
  have Q8 : Bk W8 w7.heap.size 73 [q.val] := by rw [hW8]; exact Bk.new w7 _ [_]
  have F8 := F7.more b8
  have rk8 := F8.1.row32 hk
  have zgk7 := F7.1.lt
  rw [hW8] at rk8
  clear F6 b7 b8 F7
  go_wp2_with fail
  rw [← hW8]
  clear hW8 rk8
  refine (pget_any k hk q hqok.wf hqok.dp W8).mono ?_
  rw [HG.out]
  unfold pgRes
  dsimp only
  rintro e w9 ⟨rfl, b9⟩
  have F9 := F8.more b9
  have Q9 := Q8.below b9 Q8.lt
  obtain ⟨gq, hgq⟩ : ∃ g, g = w7.heap.size := ⟨_, rfl⟩
  rw [← hgq] at Q8 Q9 ⊢
  clear hgq
  obtain ⟨W10, hW10⟩ : ∃ y, y = putAt (w9.alloc (Obj.cells (c8 (z8 32)).toArray 25)) ⟨w9.heap.size, 0, none⟩ (c8 u) := ⟨_, rfl⟩
  have b10 : Below w9.heap.size w9 W10 := by rw [hW10]; exact below_putAt ((Below.refl _ _).alloc (Nat.le_refl _) _) (Nat.le_refl _) _
  have F10 := F9.more b10
  have Q10 := Q9.below b10 Q9.lt
  have rk10 := F10.1.row32 hk
  have rx10 := F10.2.1.row32 hx
  have q10 := Q10.at_ (i := 0) rfl
  rw [hW10] at rk10 rx10 q10
  clear F8 b9 F9 Q8 Q9 b10 zgk7
  go_wp2_with fail
  rw [← hW10]
  clear hW10 rk10 rx10 q10
  refine (pput_any q k x hk hx P0 hqok W10).mono ?_
  rw [HP.out]
  rintro e w11 ⟨qq, nn, rfl, hpp, b11⟩
  obtain ⟨rfl, rfl⟩ := hpp
  have F11 := F10.more b11
  have Q11 := Q10.below b11 Q10.lt
  obtain ⟨W12, hW12⟩ : ∃ y, y = w11.alloc (Obj.cells #[q2.val] 73) := ⟨_, rfl⟩
  have b12 : Below w11.heap.size w11 W12 := by rw [hW12]; exact (Below.refl _ _).alloc (Nat.le_refl _) _
  have P12 : Bk W12 w11.heap.size 73 [q2.val] := by rw [hW12]; exact Bk.new w11 _ [_]
  have F12 := F11.more b12
  have rk12 := F12.1.row32 hk
  have zgk11 := F11.1.lt
  rw [hW12] at rk12
  clear F10 Q10 b11 F11 Q11 b12
  go_wp2_with fail
  rw [← hW12]
  clear hW12 rk12 zgk11
  refine (pget_any k hk q2 hqok2.wf hqok2.dp W12).mono ?_
  rw [HG2.out]
  unfold lookRes pgRes
  dsimp only
  rintro e w13 ⟨rfl, b13⟩
  have F13 := F12.more b13
  have P13 := P12.below b13 P12.lt
  obtain ⟨gp, hgp⟩ : ∃ g, g = w11.heap.size := ⟨_, rfl⟩
  rw [← hgp] at P12 P13 ⊢
  clear hgp
  obtain ⟨W14, hW14⟩ : ∃ y, y = putAt (w13.alloc (Obj.cells (c8 (z8 32)).toArray 25)) ⟨w13.heap.size, 0, none⟩ (c8 x) := ⟨_, rfl⟩
  have b14 : Below w13.heap.size w13 W14 := by rw [hW14]; exact below_putAt ((Below.refl _ _).alloc (Nat.le_refl _) _) (Nat.le_refl _) _
  have V14 : Bk W14 w13.heap.size 25 (c8 x) := by rw [hW14]; exact Bk.fresh w13 _ (by simp [hx])
  have F14 := F13.more b14
  have P14 := P13.below b14 P13.lt
  have rk14 := F14.1.row32 hk
  have rx14 := F14.2.1.row32 hx
  have t14 := cells_of F14.2.2.1
  obtain ⟨t140, t141⟩ := t14
  rw [hW14] at rk14 rx14 t140 t141
  clear F12 P12 b13 F13 P13 b14
  go_wp2_with fail
  rw [← hW14]
  clear hW14 rk14 rx14 t140 t141
  refine (tput_any k x hk hx 0 T P0 (.pointer p) W14 (by omega) (fun i hi => by omega) okT (by omega) F14.2.2.2.1).mono ?_
  rintro e w15 ⟨p2, rfl, hAt15, b15⟩
  change At w15 w15.heap.size (put1 T k x) p2 at hAt15
  obtain ⟨ap2, rfl⟩ := hAt15.form
  have F15 := F14.more b15
  have P15 := P14.below b15 P14.lt
  have V15 := V14.below b15 V14.lt
  obtain ⟨gv, hgv⟩ : ∃ g, g = w13.heap.size := ⟨_, rfl⟩
  rw [← hgv] at V14 V15 ⊢
  clear hgv
  obtain ⟨W16, hW16⟩ : ∃ y, y = w15.alloc (Obj.cells #[.pointer ap2, .int .i64 0] 40) := ⟨_, rfl⟩
  have b16 : Below w15.heap.size w15 W16 := by rw [hW16]; exact (Below.refl _ _).alloc (Nat.le_refl _) _
  have N16 : Bk W16 w15.heap.size 40 [.pointer ap2, .int .i64 0] := by rw [hW16]; exact Bk.new w15 _ [_, _]
  have F16 := F15.more b16
  have P16 := P15.below b16 P15.lt
  have V16 := V15.below b16 V15.lt
  have A16 := (hAt15.below b16).more b16.size
  clear F14 P14 V14 b15 F15 P15 V15 b16 hAt15
  generalize put1 T k x = T2 at *
  have hrl := T2.root_length
  cases bl with
  | true =>
    have hl2 : T2.len = T.len := by rw [HL2.out, HIS.out]; rfl
    have HLL := Lib.hid hl2
    clear hl2
    go_wp2_with fail
    rw [← hW16]
    clear hW16
    have zp := P16.lt
    have zv := V16.lt
    have zn := N16.lt
    have zx := F16.2.1.lt
    have zT := F16.2.2.1.lt
    obtain ⟨t0, t1⟩ := cells_of F16.2.2.1
    obtain ⟨n0, n1⟩ := cells_of N16
    have p0 : W16.cell? ⟨gp, 0, none⟩ = some q2.val := P16.at_ rfl
    have rv := V16.row32 hx
    have rx := F16.2.1.row32 hx
    have hpr : ∀ W : World, Calls Try.prog 40 #[.agg #[q2.val]] W fun e w' => e = .returned (A8 T2.root) ∧ Below W.heap.size W w' := fun W => by
      have := proots_any q2 hqok2.wf W
      rw [HR2.out] at this
      exact this
    have hpl : ∀ W : World, Below W16.heap.size W16 W → Calls Try.prog 25 #[.agg #[.pointer ap2, .int .i64 0]] W fun e w' => e = .returned (.int .i64 (T.len : Int)) ∧ Below W.heap.size W w' := fun W hW => by
      have := tlen_any T2 (.pointer ap2) 0 W ((A16.below hW).more hW.size)
      rw [HLL.out] at this
      exact this
    refine wp_ext (by kernel_rfl) (by kernel_rfl) ?_
    repeat (go_big_quiet_step (first | (go_at_call 40; exact quiet_ext (fun W hW => hpr W)) | (go_at_call 23; exact quiet_ext (fun W hW => troot_any T2 (.pointer ap2) 0 W ((A16.below hW).more hW.size))) | (go_at_call 25; exact quiet_ext (fun W hW => hpl W hW)) | (go_at_call 25; exact quiet_ext (fun W hW => tlen_any T (.pointer p) 0 W ((F16.2.2.2.1.below hW).more hW.size)))))
    refine wpQuiet_nil ?_
    rintro w17 ⟨p17, hw17⟩
    have Be : Below W16.heap.size W16 w17 := by rw [hw17]; exact below_ext W16 p17
    have B17 := (F16.more Be).2.2.2.2
    clear hw17 t0 t1 n0 n1 p0 rv rx
    go_wp2_with fail
    go_ret
    exact ⟨rfl, B17⟩
  | false =>
    have hl2 : T2.len = T.len + 1 := by rw [HL2.out, HIS.out]; rfl
    have HLL := Lib.hid hl2
    clear hl2
    go_wp2_with fail
    rw [← hW16]
    clear hW16
    have zp := P16.lt
    have zv := V16.lt
    have zn := N16.lt
    have zx := F16.2.1.lt
    have zT := F16.2.2.1.lt
    obtain ⟨t0, t1⟩ := cells_of F16.2.2.1
    obtain ⟨n0, n1⟩ := cells_of N16
    have p0 : W16.cell? ⟨gp, 0, none⟩ = some q2.val := P16.at_ rfl
    have rv := V16.row32 hx
    have rx := F16.2.1.row32 hx
    have hpr : ∀ W : World, Calls Try.prog 40 #[.agg #[q2.val]] W fun e w' => e = .returned (A8 T2.root) ∧ Below W.heap.size W w' := fun W => by
      have := proots_any q2 hqok2.wf W
      rw [HR2.out] at this
      exact this
    have hpl : ∀ W : World, Below W16.heap.size W16 W → Calls Try.prog 25 #[.agg #[.pointer ap2, .int .i64 0]] W fun e w' => e = .returned (.int .i64 ((T.len : Int) + 1)) ∧ Below W.heap.size W w' := fun W hW => by
      have := tlen_any T2 (.pointer ap2) 0 W ((A16.below hW).more hW.size)
      rw [HLL.out] at this
      exact this
    refine wp_ext (by kernel_rfl) (by kernel_rfl) ?_
    repeat (go_big_quiet_step (first | (go_at_call 40; exact quiet_ext (fun W hW => hpr W)) | (go_at_call 23; exact quiet_ext (fun W hW => troot_any T2 (.pointer ap2) 0 W ((A16.below hW).more hW.size))) | (go_at_call 25; exact quiet_ext (fun W hW => hpl W hW)) | (go_at_call 25; exact quiet_ext (fun W hW => tlen_any T (.pointer p) 0 W ((F16.2.2.2.1.below hW).more hW.size)))))
    refine wpQuiet_nil ?_
    rintro w17 ⟨p17, hw17⟩
    have Be : Below W16.heap.size W16 w17 := by rw [hw17]; exact below_ext W16 p17
    have B17 := (F16.more Be).2.2.2.2
    clear hw17 t0 t1 n0 n1 p0 rv rx
    go_wp2_with fail
    go_ret
    exact ⟨rfl, B17⟩
end Go.Proofs.Ytpalomkcgfalnaa
