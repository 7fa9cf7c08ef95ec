/- witanlaw10.WitnessEmpty answers true. -/
import Derived.Test.YtpalomkcgfalnaaWitK
import Derived.Test.YtpalomkcgfalnaaWitL
import Derived.Test.YtpalomkcgfalnaaHeldMore
set_option linter.unusedVariables false
set_option linter.unusedSimpArgs false
namespace Go.Proofs.Ytpalomkcgfalnaa
open Go Go.RowKit Sh
theorem cells_of2 {w : World} {g : Nat} {t : TypeId} {a b : Value} (h : Bk w g t [a, b]) : w.cell? ⟨g, 0, none⟩ = some a ∧ w.cell? ⟨g, 1, none⟩ = some b := ⟨h.at_ rfl, h.at_ rfl⟩
theorem Bk.row32' {w : World} {g : Nat} {t : TypeId} {l : List UInt8} (h : Bk w g t (c8 l)) (hl : l.length = 32) : rowAt w ⟨g, 0, none⟩ 32 = some (c8 l) := by have := h.rows; rwa [length_c8, hl] at this
/-- A tight part's bytes are read as that part. -/
theorem parse_bytes {p : Pt} {P : Nat → Bool} (ok : p.Ok 0 P) (ht : p.Tight) : parseB p.bytes = .ok p := by
  have h := rd_complete 256 [] p [] rfl (ok.congr fun i hi => by simp at hi) ht
  rw [List.append_nil] at h
  unfold parseB
  rw [h]
def WeF (w : World) (gk gT gq : Nat) (k : List UInt8) (T : Tr) (p : Option Addr) (q : Pt) (W : World) : Prop :=
  Bk W gk 25 (c8 k) ∧ Bk W gT 40 [.pointer p, .int .i64 0] ∧ Bk W gq 73 [q.val] ∧ At W W.heap.size T (.pointer p) ∧ Below w.heap.size w W
theorem WeF.more {w : World} {gk gT gq : Nat} {k : List UInt8} {T : Tr} {p : Option Addr} {q : Pt} {W W' : World} (h : WeF w gk gT gq k T p q W) (hb : Below W.heap.size W W') : WeF w gk gT gq k T p q W' :=
  ⟨h.1.below hb h.1.lt, h.2.1.below hb h.2.1.lt, h.2.2.1.below hb h.2.2.1.lt, (h.2.2.2.1.below hb).more hb.size, below_two h.2.2.2.2 hb h.2.2.2.2.size⟩
set_option maxRecDepth 100000 in
set_option maxHeartbeats 4000000 in
theorem witEmpty_any (v : Value) (L : List Pr) (k : List UInt8) (w : World) (hv : Ps w 0 w.heap.size v L) (hk : k.length = 32) :
    Calls Try.prog 13 #[v, A8 k] w fun e w' => e = .returned (.bool true) ∧ Below w.heap.size w w' := by
  have hlok := hv.1
  have HPs0 := Lib.hid hv
  clear hv
  obtain ⟨W0, hW0⟩ : ∃ y, y = w.alloc (Obj.cells (c8 k).toArray 25) := ⟨_, rfl⟩
  have B0 : Below w.heap.size w W0 := by rw [hW0]; exact (Below.refl _ _).alloc (Nat.le_refl _) _
  have K0 : Bk W0 w.heap.size 25 (c8 k) := by rw [hW0]; exact Bk.new w _ _
  go_enter Try.func13, Try.ntmps13
  go_wp2_with fail
  rw [← hW0]
  clear hW0
  obtain ⟨gk, hgk⟩ : ∃ g, g = w.heap.size := ⟨_, rfl⟩
  rw [← hgk] at K0 ⊢
  have zgk : w.heap.size ≤ gk := by omega
  clear hgk
  refine (first10 W0).mono ?_
  rintro e w1 ⟨rfl, b1⟩
  have K1 := K0.below b1 K0.lt
  have B1 := below_two B0 b1 B0.size
  clear K0 B0 b1
  go_wp2_with fail
  refine (grown_any v L w1 ((HPs0.out.below B1).more B1.size)).mono ?_
  rintro e w2 ⟨p, u1, rfl, hAt2, hPs2, b2⟩
  have okT : Okt (puts (L.take 25) .e) := Okt.puts (fun q hq => hlok q (List.mem_of_mem_take hq)) Okt.nil
  have lenT : (puts (L.take 25) .e).len ≤ 25 := by
    have := len_puts (l := L.take 25) (fun q hq => hlok q (List.mem_of_mem_take hq)) Okt.nil
    have h2 : (L.take 25).length ≤ 25 := by simp; omega
    simp only [Tr.len] at this
    omega
  generalize puts (L.take 25) .e = T at *
  obtain ⟨A1, c1, hu1, hcu1, hcu2⟩ := hPs2.form
  rw [← Tr.len_pairs] at hu1 hcu1
  subst hu1
  have K2 := K1.below b2 K1.lt
  have B2 := below_two B1 b2 B1.size
  obtain ⟨W3, hW3⟩ : ∃ y, y = w2.alloc (Obj.cells #[.pointer p, .int .i64 0] 40) := ⟨_, rfl⟩
  have b3 : Below w2.heap.size w2 W3 := by rw [hW3]; exact (Below.refl _ _).alloc (Nat.le_refl _) _
  have T3 : Bk W3 w2.heap.size 40 [.pointer p, .int .i64 0] := by rw [hW3]; exact Bk.new w2 _ [_, _]
  have K3 := K2.below b3 K2.lt
  have At3 := (hAt2.below b3).more b3.size
  have B3 := below_two B2 b3 B2.size
  have hc := pcut_any T P0 okT (by omega) (.pointer p) (.slice none 0 0) [] W3 (by simp) At3 ⟨by simp, none, 0, rfl, Nat.le_refl _, by simp [maxLen], .inl rfl⟩
  have hvw := view_cut T [] 0
  have hqe : (T.len = 0 ∧ T.cut [] 0 = .e) ∨ (0 < T.len ∧ T.cut [] 0 = .hd T.root) := by
    cases T with
    | e => exact .inl ⟨rfl, rfl⟩
    | lf _ _ => exact .inr ⟨by simp [Tr.len], rfl⟩
    | nd l r => exact .inr ⟨by have := okT.2.1; simp only [Tr.len]; omega, rfl⟩
  have htight := hvw.tight okT
  generalize T.cut [] 0 = q at *
  have hqok := hvw.ok okT
  have hpb := parse_bytes hqok htight
  have HRT := Lib.hid hvw.root
  have HPB := Lib.hid hpb
  have HC := Lib.hid hc
  have HQ := Lib.hid hqe
  clear K1 B1 b2 K2 B2 hAt2 hPs2 hpb hc hqe hvw htight b3
  go_wp2_with fail
  rw [← hW3]
  clear hW3
  refine HC.out.mono ?_
  clear HC
  rintro e w4 ⟨rfl, b4⟩
  obtain ⟨gT, hgT⟩ : ∃ g, g = w2.heap.size := ⟨_, rfl⟩
  rw [← hgT] at T3 ⊢
  clear hgT
  obtain ⟨W5, hW5⟩ : ∃ y, y = w4.alloc (Obj.cells #[q.val] 73) := ⟨_, rfl⟩
  have b5 : Below w4.heap.size w4 W5 := by rw [hW5]; exact (Below.refl _ _).alloc (Nat.le_refl _) _
  have F5 : WeF w gk gT w4.heap.size k T p q W5 := by
    have b45 := below_two b4 b5 b4.size
    exact ⟨K3.below b45 K3.lt, T3.below b45 T3.lt, by rw [hW5]; exact Bk.new w4 _ [_], (At3.below b45).more b45.size, below_two B3 b45 B3.size⟩
  clear b4 b5 K3 T3 At3 B3
  have hql : q.bytes.length ≤ 33 := by
    rcases HQ.out with ⟨_, h⟩ | ⟨_, h⟩
    · rw [h]; simp [Pt.bytes]
    · rw [h]; simp [Pt.bytes, T.root_length]
  go_wp2_with fail
  rw [← hW5]
  clear hW5
  obtain ⟨gq, hgq⟩ : ∃ g, g = w4.heap.size := ⟨_, rfl⟩
  rw [← hgq] at F5 ⊢
  clear hgq
  refine (pbytes_any q hqok.wf (by omega) W5).mono ?_
  rintro e w6 ⟨u6, rfl, O6, b6⟩
  have F6 := F5.more b6
  go_wp2_with fail
  refine (parse_any u6 q.bytes w6 ((O6.by_).less (Nat.zero_le _))).mono ?_
  rw [HPB.out]
  rintro e w7 ⟨q', n', rfl, hpr, b7⟩
  obtain ⟨rfl, rfl⟩ := hpr
  have F7 := F6.more b7
  obtain ⟨W8, hW8⟩ : ∃ y, y = w7.alloc (Obj.cells #[q'.val] 73) := ⟨_, rfl⟩
  have b8 : Below w7.heap.size w7 W8 := by rw [hW8]; exact (Below.refl _ _).alloc (Nat.le_refl _) _
  have P8 : Bk W8 w7.heap.size 73 [q'.val] := by rw [hW8]; exact Bk.new w7 _ [_]
  have F8 := F7.more b8
  have rk8 := F8.1.row32' hk
  have zk7 := F7.1.lt
  rw [hW8] at rk8
  clear F5 F6 F7 b6 b7 b8 O6
  go_wp2_with fail
  rw [← hW8]
  clear hW8 rk8 zk7
  refine (pget_any k hk q' hqok.wf hqok.dp W8).mono ?_
  rintro e w9 ⟨rfl, b9⟩
  have F9 := F8.more b9
  have P9 := P8.below b9 P8.lt
  obtain ⟨gp, hgp⟩ : ∃ g, g = w7.heap.size := ⟨_, rfl⟩
  rw [← hgp] at P8 P9 ⊢
  clear hgp
  obtain ⟨W10, hW10⟩ : ∃ y, y = putAt (w9.alloc (Obj.cells (c8 (z8 32)).toArray 25)) ⟨w9.heap.size, 0, none⟩ (c8 (z8 32)) := ⟨_, rfl⟩
  have b10 : Below w9.heap.size w9 W10 := by rw [hW10]; exact below_putAt ((Below.refl _ _).alloc (Nat.le_refl _) _) (Nat.le_refl _) _
  have F10 := F9.more b10
  have P10 := P9.below b10 P9.lt
  clear F8 P8 b9 F9 P9 b10
  have hrl := T.root_length
  rcases HQ.out with ⟨hl0, rfl⟩ | ⟨hlp, rfl⟩
  · dsimp only [Pt.get, pgRes]
    have hl0' : ((T.len : Int) == 0) = true := by rw [hl0]; rfl
    go_wp2_with fail
    rw [← hW10]
    clear hW10
    have zq := F10.2.2.1.lt
    have zp := P10.lt
    have S10 : Below W10.heap.size W10 W10.drew := (Below.refl _ _).drew
    refine held_begin (fun W => Below W10.heap.size W10 W) (by kernel_rfl) ?_
    refine held_quiet (A := ?Aa1) [0, 1, 2, 3] (by kernel_rfl) (by kernel_rfl) rfl (by kernel_rfl) (by kernel_rfl) S10 (h := fun W hW => ?ha1) (hr := ?ra1)
    case ha1 =>
      have q0 : W.cell? ⟨gq, 0, none⟩ = some Pt.e.val := (F10.2.2.1.below hW zq).at_ rfl
      dsimp only [Pt.val] at q0
      simp only [pick, List.getElem?_cons_zero, List.getElem?_cons_succ]
      repeat (go_big_quiet_step (fail))
      refine wpQuiet_nil ?_
      rfl
    case ra1 =>
      refine held_two 4 6 (by kernel_rfl) (by rfl) (by rfl) (by rfl) (by rfl) (fun Q' hQ' => ?_) (fun Q' hQ' => ?_)
      · dsimp only [bare]
        go_wp2_with fail
        refine (pbytes_any .e trivial (by simp [Pt.bytes]) W10.drew).mono ?_
        rintro e w11 ⟨u11, rfl, O11, b11⟩
        have S11 : Below W10.heap.size W10 w11 := S10.trans b11
        have Y11 : By w11 0 w11.heap.size u11 [0] := (O11.by_).less (Nat.zero_le _)
        clear O11
        go_wp2_with fail
        refine hQ' _ _ S11 ?_
        clear hQ'
        refine held_from S11 ?_
        refine held_quiet (A := ?Aa2) [5] (by kernel_rfl) (by kernel_rfl) rfl (by kernel_rfl) (by kernel_rfl) (Below.refl _ _) (h := fun W hW => ?ha2) (hr := ?ra2)
        case ha2 =>
          have hs : ∀ raw, strOp W raw u11 = .ok (.value (S8 [0])) W := fun raw => strOp_by (Y11.below hW) raw
          simp only [List.append_eq, List.nil_append, List.cons_append, pick, List.getElem?_cons_zero, List.getElem?_cons_succ]
          repeat (go_big_quiet_step (fail))
          refine wpQuiet_nil ?_
          rfl
        case ra2 =>
          refine held_one 6 (by kernel_rfl) (by rfl) (by rfl) (fun Q' hQ' => ?_)
          dsimp only [bare]
          go_wp2_with fail
          obtain ⟨W12, hW12⟩ : ∃ y, y = w11.alloc (Obj.cells #[.int .u8 0] 5) := ⟨_, rfl⟩
          have b12 : Below w11.heap.size w11 W12 := by rw [hW12]; exact (Below.refl _ _).alloc (Nat.le_refl _) _
          have Y12 : By W12 0 W12.heap.size (.slice (some ⟨w11.heap.size, 0, none⟩) 1 1) [0] := by rw [hW12]; exact (By.build w11 5 (0, 0) [0] (by simp)).more (by simp)
          obtain ⟨s12, hs12⟩ : ∃ s, s = Value.slice (some ⟨w11.heap.size, 0, none⟩) 1 1 := ⟨_, rfl⟩
          rw [← hs12] at Y12
          rw [← hW12, ← hs12]
          clear hs12
          refine hQ' _ _ b12 ?_
          clear hQ' hW12
          refine held_from b12 ?_
          have S12 := below_two S11 b12 S11.size
          refine held_quiet (A := ?Aa3) [7, 8, 9, 10, 11, 12, 13, 14, 15, 16, 17, 18, 19, 21] (by kernel_rfl) (by kernel_rfl) rfl (by kernel_rfl) (by kernel_rfl) (Below.refl _ _) (h := fun W hW => ?ha3) (hr := ?ra3)
          case ha3 =>
            have hs : ∀ raw, strOp W raw s12 = .ok (.value (S8 [0])) W := fun raw => strOp_by (Y12.below hW) raw
            have p0 : W.cell? ⟨gp, 0, none⟩ = some Pt.e.val := (P10.below (S12.trans (hW.mono S12.size)) zp).at_ rfl
            dsimp only [Pt.val] at p0
            simp only [List.append_eq, List.nil_append, List.cons_append, pick, List.getElem?_cons_zero, List.getElem?_cons_succ]
            repeat (go_big_quiet_step (fail))
            refine wpQuiet_nil ?_
            rfl
          case ra3 =>
            refine held_one 20 (by kernel_rfl) (by rfl) (by rfl) (fun Q' hQ' => ?_)
            dsimp only [bare]
            go_wp2_with fail
            refine (proots_any .e trivial W12).mono ?_
            rintro e w20 ⟨rfl, b20⟩
            dsimp only [Pt.root]
            go_wp2_with fail
            refine hQ' _ _ b20 ?_
            clear hQ'
            have S20 := below_two S12 b20 (S12).size
            refine held_quiet (A := ?Aa9) [22, 23] (by kernel_rfl) (by kernel_rfl) rfl (by kernel_rfl) (by kernel_rfl) b20 (h := fun W hW => ?ha9) (hr := ?ra9)
            case ha9 =>
              simp only [List.append_eq, List.nil_append, List.cons_append, pick, List.getElem?_cons_zero, List.getElem?_cons_succ]
              repeat (go_big_quiet_step (fail))
              refine wpQuiet_nil ?_
              rfl
            case ra9 =>
              refine held_one 24 (by kernel_rfl) (by rfl) (by rfl) (fun Q' hQ' => ?_)
              dsimp only [bare]
              go_wp2_with fail
              refine hQ' _ _ b20 ?_
              clear hQ'
              refine held_end (by kernel_rfl) ?_
              go_wp2_with fail
              go_ret
              exact ⟨rfl, (F10.more S20).2.2.2.2⟩
      · dsimp only [bare]
        go_wp2_with fail
        obtain ⟨W11, hW11⟩ : ∃ y, y = (W10.alloc (Obj.cells #[.int .u8 0] 5)).drew := ⟨_, rfl⟩
        have S11 : Below W10.heap.size W10 W11 := by rw [hW11]; exact ((Below.refl _ _).alloc (Nat.le_refl _) _).drew
        have Y11 : By W11 0 W11.heap.size (.slice (some ⟨W10.heap.size, 0, none⟩) 1 1) [0] := by rw [hW11]; exact (By.build W10 5 (0, 0) [0] (by simp)).more (by simp)
        obtain ⟨s11, hs11⟩ : ∃ s, s = Value.slice (some ⟨W10.heap.size, 0, none⟩) 1 1 := ⟨_, rfl⟩
        rw [← hs11] at Y11
        rw [← hW11, ← hs11]
        clear hs11
        refine hQ' _ _ S11 ?_
        clear hQ' hW11
        refine held_from S11 ?_
        refine held_quiet (A := ?Ab2) [7] (by kernel_rfl) (by kernel_rfl) rfl (by kernel_rfl) (by kernel_rfl) (Below.refl _ _) (h := fun W hW => ?hb2) (hr := ?rb2)
        case hb2 =>
          have hs : ∀ raw, strOp W raw s11 = .ok (.value (S8 [0])) W := fun raw => strOp_by (Y11.below hW) raw
          simp only [List.append_eq, List.nil_append, List.cons_append, pick, List.getElem?_cons_zero, List.getElem?_cons_succ]
          repeat (go_big_quiet_step (fail))
          refine wpQuiet_nil ?_
          rfl
        case rb2 =>
          refine held_one 4 (by kernel_rfl) (by rfl) (by rfl) (fun Q' hQ' => ?_)
          dsimp only [bare]
          go_wp2_with fail
          refine (pbytes_any .e trivial (by simp [Pt.bytes]) W11).mono ?_
          rintro e w12 ⟨u12, rfl, O12, b12⟩
          have S12 := below_two S11 b12 S11.size
          have Y12 : By w12 0 w12.heap.size u12 [0] := (O12.by_).less (Nat.zero_le _)
          clear O12
          go_wp2_with fail
          refine hQ' _ _ b12 ?_
          clear hQ'
          refine held_from b12 ?_
          refine held_quiet (A := ?Ab3) [5, 8, 9, 10, 11, 12, 13, 14, 15, 16, 17, 18, 19, 21] (by kernel_rfl) (by kernel_rfl) rfl (by kernel_rfl) (by kernel_rfl) (Below.refl _ _) (h := fun W hW => ?hb3) (hr := ?rb3)
          case hb3 =>
            have hs : ∀ raw, strOp W raw u12 = .ok (.value (S8 [0])) W := fun raw => strOp_by (Y12.below hW) raw
            have p0 : W.cell? ⟨gp, 0, none⟩ = some Pt.e.val := (P10.below (S12.trans (hW.mono S12.size)) zp).at_ rfl
            dsimp only [Pt.val] at p0
            simp only [List.append_eq, List.nil_append, List.cons_append, pick, List.getElem?_cons_zero, List.getElem?_cons_succ]
            repeat (go_big_quiet_step (fail))
            refine wpQuiet_nil ?_
            rfl
          case rb3 =>
            refine held_one 20 (by kernel_rfl) (by rfl) (by rfl) (fun Q' hQ' => ?_)
            dsimp only [bare]
            go_wp2_with fail
            refine (proots_any .e trivial w12).mono ?_
            rintro e w20 ⟨rfl, b20⟩
            dsimp only [Pt.root]
            go_wp2_with fail
            refine hQ' _ _ b20 ?_
            clear hQ'
            have S20 := below_two S12 b20 (S12).size
            refine held_quiet (A := ?Ab9) [22, 23] (by kernel_rfl) (by kernel_rfl) rfl (by kernel_rfl) (by kernel_rfl) b20 (h := fun W hW => ?hb9) (hr := ?rb9)
            case hb9 =>
              simp only [List.append_eq, List.nil_append, List.cons_append, pick, List.getElem?_cons_zero, List.getElem?_cons_succ]
              repeat (go_big_quiet_step (fail))
              refine wpQuiet_nil ?_
              rfl
            case rb9 =>
              refine held_one 24 (by kernel_rfl) (by rfl) (by rfl) (fun Q' hQ' => ?_)
              dsimp only [bare]
              go_wp2_with fail
              refine hQ' _ _ b20 ?_
              clear hQ'
              refine held_end (by kernel_rfl) ?_
              go_wp2_with fail
              go_ret
              exact ⟨rfl, (F10.more S20).2.2.2.2⟩
  · dsimp only [Pt.get, pgRes]
    have hl0' : ((T.len : Int) == 0) = false := beq_eq_false_iff_ne.2 (by omega)
    have hpput := pput_any (.hd T.root) k k hk hk P0 hqok W10
    have rk10 := F10.1.row32' hk
    have p10 : W10.cell? ⟨gp, 0, none⟩ = some (Pt.hd T.root).val := P10.at_ rfl
    rw [hW10] at rk10 p10
    go_wp2_with fail
    rw [← hW10]
    clear hW10 rk10 p10
    refine hpput.mono ?_
    rintro e w11 ⟨qq, nn, rfl, hpp, b11⟩
    obtain ⟨rfl, rfl⟩ : qq = .e ∧ nn = 100 := hpp
    have F11 := F10.more b11
    have P11 := P10.below b11 P10.lt
    obtain ⟨W12, hW12⟩ : ∃ y, y = w11.alloc (Obj.cells #[.nilIface] 73) := ⟨_, rfl⟩
    have b12 : Below w11.heap.size w11 W12 := by rw [hW12]; exact (Below.refl _ _).alloc (Nat.le_refl _) _
    have F12 := F11.more b12
    have P12 := P11.below b12 P11.lt
    clear F10 P10 b11 F11 P11 b12 hpput
    dsimp only [Pt.val]
    go_wp2_with fail
    rw [← hW12]
    clear hW12
    have zq := F12.2.2.1.lt
    have zp := P12.lt
    have zT := F12.2.1.lt
    have e33 : (Pt.hd T.root).bytes.length = 33 := by simp [Pt.bytes, hrl]
    have S12 : Below W12.heap.size W12 W12.drew := (Below.refl _ _).drew
    refine held_begin (fun W => Below W12.heap.size W12 W) (by kernel_rfl) ?_
    refine held_quiet (A := ?Ac1) [0, 1, 2, 3] (by kernel_rfl) (by kernel_rfl) rfl (by kernel_rfl) (by kernel_rfl) S12 (h := fun W hW => ?hc1) (hr := ?rc1)
    case hc1 =>
      have q0 : W.cell? ⟨gq, 0, none⟩ = some (Pt.hd T.root).val := (F12.2.2.1.below hW zq).at_ rfl
      dsimp only [Pt.val] at q0
      simp only [pick, List.getElem?_cons_zero, List.getElem?_cons_succ]
      repeat (go_big_quiet_step (fail))
      refine wpQuiet_nil ?_
      rfl
    case rc1 =>
      refine held_one 4 (by kernel_rfl) (by rfl) (by rfl) (fun Q' hQ' => ?_)
      dsimp only [bare]
      go_wp2_with fail
      refine (pbytes_any (.hd T.root) hqok.wf (by omega) W12.drew).mono ?_
      rintro e w13 ⟨u13, rfl, O13, b13⟩
      have S13 : Below W12.heap.size W12 w13 := S12.trans b13
      obtain ⟨A13, c13, rfl, _, _⟩ := O13.form
      rw [e33]
      clear O13
      go_wp2_with fail
      refine hQ' _ _ S13 ?_
      clear hQ'
      refine held_quiet (A := ?Ac2) [5, 6, 7, 8, 9, 10, 11, 12, 13, 14, 15, 16, 17, 18, 19, 20, 21, 23] (by kernel_rfl) (by kernel_rfl) rfl (by kernel_rfl) (by kernel_rfl) S13 (h := fun W hW => ?hc2) (hr := ?rc2)
      case hc2 =>
        have p0 : W.cell? ⟨gp, 0, none⟩ = some (Pt.hd T.root).val := (P12.below hW zp).at_ rfl
        dsimp only [Pt.val] at p0
        obtain ⟨t0, t1⟩ := cells_of2 (F12.2.1.below hW zT)
        simp only [List.append_eq, List.nil_append, List.cons_append, pick, List.getElem?_cons_zero, List.getElem?_cons_succ]
        repeat (go_big_quiet_step (fail))
        refine wpQuiet_nil ?_
        rfl
      case rc2 =>
        refine held_one 22 (by kernel_rfl) (by rfl) (by rfl) (fun Q' hQ' => ?_)
        dsimp only [bare]
        go_wp2_with fail
        refine (proots_any (.hd T.root) hqok.wf w13).mono ?_
        dsimp only [Pt.root]
        rintro e w14 ⟨rfl, b14⟩
        have S14 := below_two S13 b14 S13.size
        go_wp2_with fail
        refine hQ' _ _ S14 ?_
        clear hQ'
        refine held_one 24 (by kernel_rfl) (by rfl) (by rfl) (fun Q' hQ' => ?_)
        dsimp only [bare]
        go_wp2_with fail
        refine (troot_any T (.pointer p) 0 w14 ((F12.2.2.2.1.below S14).more S14.size)).mono ?_
        rintro e w15 ⟨rfl, b15⟩
        have S15 := below_two S14 b15 S14.size
        go_wp2_with fail
        refine hQ' _ _ S15 ?_
        clear hQ'
        refine held_quiet (A := ?Ac3) [25, 26] (by kernel_rfl) (by kernel_rfl) rfl (by kernel_rfl) (by kernel_rfl) S15 (h := fun W hW => ?hc3) (hr := ?rc3)
        case hc3 =>
          simp only [List.append_eq, List.nil_append, List.cons_append, pick, List.getElem?_cons_zero, List.getElem?_cons_succ]
          repeat (go_big_quiet_step (fail))
          refine wpQuiet_nil ?_
          rfl
        case rc3 =>
          refine held_one 27 (by kernel_rfl) (by rfl) (by rfl) (fun Q' hQ' => ?_)
          dsimp only [bare]
          go_wp2_with fail
          refine hQ' _ _ S15 ?_
          clear hQ'
          refine held_end (by kernel_rfl) ?_
          go_wp2_with fail
          go_ret
          exact ⟨rfl, (F12.more S15).2.2.2.2⟩
end Go.Proofs.Ytpalomkcgfalnaa
