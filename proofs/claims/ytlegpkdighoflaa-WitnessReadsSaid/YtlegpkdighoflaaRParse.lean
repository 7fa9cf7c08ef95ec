/- witanref10: Part.read as a whole, and Parse. -/
import Derived.Test.YtlegpkdighoflaaRReadB
import Derived.Test.YtlegpkdighoflaaWitJ
set_option linter.unusedVariables false
set_option linter.unusedSimpArgs false
namespace Go.Proofs.Ytlegpkdighoflaa
open Go Go.RowKit Sh
set_option maxRecDepth 100000 in
set_option maxHeartbeats 4000000 in
theorem read_end (base gp gt : Nat) (v : Value) (nds : List NV) (inp : List UInt8) (a : Nat) (ha : a = inp.length) (hL : inp.length ≤ 1000000) (way : Value) (w : World) (h : RSt w base gp gt v nds inp a 0) (hnl : nds.length < 100000) :
    Calls Try.prog 18 #[.pointer (some ⟨gp, 0, none⟩), .pointer (some ⟨gt, 0, none⟩), way] w fun e w' => ReadPost w base gp gt v nds inp a (.error 10) e w' := by
  have HS := Lib.hid h
  obtain ⟨h1, h2, h3, h4, h5, h6, h7, h8⟩ := h
  obtain ⟨A, c, rfl, hc1, hc2⟩ := h2.form
  have p0 := h1.at_ (i := 0) rfl
  have zp := h1.lt
  have zt := h3.lt
  have H2 := Lib.hid h2
  clear h2
  have hge : decide (inp.length ≤ a) = true := decide_eq_true (by omega)
  have HA := Lib.hid ha
  clear ha
  go_enter Try.func18, Try.ntmps18
  go_wp2_with (at_builtin; refine appN rfl _ _ rfl rfl H2.out nd0 nd0_ok rfl rfl (by omega) h7 ?_; intro gn c4 w4 hc4 hc5 hO4 hB4 hg4 ha4; have f4 := (h1.below hB4 h4).frozen 0; have p4 := (h1.below hB4 h4).at_ (i := 0) rfl; have HR := Lib.hid (HS.out.grow hnl hO4 hB4 hg4 ha4); clear hO4 hB4 hg4 ha4)
  obtain ⟨W5, hW5⟩ : ∃ y, y = w4.setCell ⟨gp, 0, none⟩ (.slice (some ⟨gn, 0, none⟩) (nds.length + 1) c4) := ⟨_, rfl⟩
  rw [← hW5] at HR ⊢
  obtain ⟨R5, K5⟩ := HR.out
  obtain ⟨tv, T5, Y5⟩ := R5.2.2.1
  obtain ⟨At, ct, rfl, ht1, ht2, _⟩ := Y5.open_
  have c0 : W5.cell? ⟨gt, 0, none⟩ = some (.slice At inp.length ct) := T5.at_ rfl
  have c1 : W5.cell? ⟨gt, 1, none⟩ = some (.int .i64 (a : Int)) := T5.at_ rfl
  have c2 : W5.cell? ⟨gt, 2, none⟩ = some (.int .i64 0) := T5.at_ rfl
  have R6 := Lib.hid R5
  clear hW5 HR R5 f4 p4 p0 h1 h3 H2 HS T5 Y5
  go_quiet (fail)
  obtain ⟨W6, hW6⟩ : ∃ y, y = W5.drewN nq := ⟨_, rfl⟩
  rw [← hW6]
  have R6' : RSt W6 base gp gt (.slice (some ⟨gn, 0, none⟩) (nds.length + 1) c4) (nds ++ [nd0]) inp a 0 := by rw [hW6]; exact R6.out.below (below_drewN (Below.refl _ _) _)
  have K6 : RK w W6 gp gt _ _ := K5.trans (by rw [hW6]; exact (RK.of_below gp gt _ (below_drewN (Below.refl _ _) nq)))
  clear hW6 c0 c1 c2 R6 K5
  obtain ⟨tv, T6, _⟩ := R6'.2.2.1
  have d2 : W6.cell? ⟨gt, 2, none⟩ = some (.int .i64 0) := T6.at_ rfl
  have f2 := T6.frozen 2
  have R7 := R6'.tape (R6'.2.2.1.setBad 10) (grown_setc _ _ _ _)
  obtain ⟨W7, hW7⟩ : ∃ y, y = W6.setCell ⟨gt, 2, none⟩ (.int .i64 10) := ⟨_, rfl⟩
  rw [← hW7] at R7
  obtain ⟨tv7, T7, _⟩ := R7.1.2.2.1
  have d7 : W7.cell? ⟨gt, 2, none⟩ = some (.int .i64 10) := T7.at_ rfl
  have K7 := K6.trans R7.2
  have HR7 := Lib.hid R7.1
  rw [hW7] at d7
  clear R6' K6 T6 T7 R7
  have HW7 := Lib.hid hW7
  clear hW7
  go_wp2_with fail
  rw [← HW7.out]
  go_ret
  have := HA.out
  exact ⟨rfl, _, [nd0], a, 10, HR7.out, K7, Nat.le_refl _, by omega, by simp, by simp, rfl⟩
theorem res1_rd {f : Nat} {wayl : List Bool} {inp : List UInt8} {a : Nat} : res1 inp a wayl = rd f wayl (1 :: inp.drop (a + 1)) := by
  have hres : rd f wayl (1 :: inp.drop (a + 1)) = if (inp.drop (a + 1)).length < 64 then .error 10 else if chk wayl ((inp.drop (a + 1)).take 32) then .ok (.lf ((inp.drop (a + 1)).take 32) (((inp.drop (a + 1)).drop 32).take 32), (inp.drop (a + 1)).drop 64) else .error 13 := by cases f <;> rfl
  rw [hres]
  unfold res1
  simp only [List.drop_drop, List.length_drop]
  have e1 : a + 1 + 32 = a + 33 := by omega
  have e2 : a + 1 + 64 = a + 65 := by omega
  rw [e1, e2]
  by_cases h : inp.length < a + 65
  · rw [if_pos h, if_pos (show inp.length - (a + 1) < 64 by omega)]
  · rw [if_neg h, if_neg (show ¬ (inp.length - (a + 1) < 64) by omega)]
theorem res3_rd {f : Nat} {wayl : List Bool} {inp : List UInt8} {a : Nat} : res3 inp a = rd f wayl (3 :: inp.drop (a + 1)) := by
  have hres : rd f wayl (3 :: inp.drop (a + 1)) = if (inp.drop (a + 1)).length < 32 then .error 10 else .ok (.hd ((inp.drop (a + 1)).take 32), (inp.drop (a + 1)).drop 32) := by cases f <;> rfl
  rw [hres]
  unfold res3
  simp only [List.drop_drop, List.length_drop]
  have e1 : a + 1 + 32 = a + 33 := by omega
  rw [e1]
  by_cases h : inp.length < a + 33
  · rw [if_pos h, if_pos (by omega)]
  · rw [if_neg h, if_neg (by omega)]
theorem rd_kx {f : Nat} {wayl : List Bool} {b : List UInt8} {k : UInt8} (h0 : k ≠ 0) (h1 : k ≠ 1) (h2 : k ≠ 2) (h3 : k ≠ 3) : rd f wayl (k :: b) = .error 13 := by
  cases f <;> simp [rd, rd1, h0, h1, h2, h3]
theorem four_le {k : UInt8} (h0 : k ≠ 0) (h1 : k ≠ 1) (h2 : k ≠ 2) (h3 : k ≠ 3) : 4 ≤ k.toNat := by
  have e0 : k.toNat ≠ 0 := fun e => h0 (UInt8.toNat_inj.1 e)
  have e1 : k.toNat ≠ 1 := fun e => h1 (UInt8.toNat_inj.1 e)
  have e2 : k.toNat ≠ 2 := fun e => h2 (UInt8.toNat_inj.1 e)
  have e3 : k.toNat ≠ 3 := fun e => h3 (UInt8.toNat_inj.1 e)
  omega
theorem read_any {base gp gt : Nat} {inp : List UInt8} (hL : inp.length ≤ 1000000) : ∀ f, ReadIH base gp gt f inp := by
  intro f
  induction f with
  | zero =>
    intro wayl v wv nds a w hf ha hb h hw
    by_cases hal : a < inp.length
    · obtain ⟨k, hk⟩ : ∃ k, inp[a]? = some k := ⟨_, List.getElem?_eq_getElem hal⟩
      have hd : inp.drop a = k :: inp.drop (a + 1) := by
        rw [List.drop_eq_getElem_cons hal]
        congr 1
        exact (List.getElem?_eq_some_iff.1 hk).2
      rw [hd]
      by_cases h0 : k = 0
      · exact (read_k0 base gp gt v nds inp a k hk hL wv w h (by omega) h0).mono fun e w' hp => by rw [h0]; exact hp
      by_cases h1 : k = 1
      · exact (read_k1 base gp gt v nds inp a k hk hL wv w h (by omega) h1 wayl (by omega) hw).mono fun e w' hp => by rw [h1]; exact res1_rd (f := 0) ▸ hp
      by_cases h2 : k = 2
      · exact (read_k2z base gp gt v nds inp a k hk hL wv w h (by omega) h2 wayl (by omega) hw).mono fun e w' hp => by rw [h2]; exact hp
      by_cases h3 : k = 3
      · exact (read_k3 base gp gt v nds inp a k hk hL wv w h (by omega) h3).mono fun e w' hp => by rw [h3]; exact res3_rd (f := 0) ▸ hp
      · exact (read_kx base gp gt v nds inp a k hk hL wv w h (by omega) (four_le h0 h1 h2 h3)).mono fun e w' hp => by rw [rd_kx h0 h1 h2 h3]; exact hp
    · have ha' : a = inp.length := by omega
      rw [List.drop_eq_nil_of_le (by omega)]
      exact read_end base gp gt v nds inp a ha' hL wv w h (by omega)
  | succ f ih =>
    intro wayl v wv nds a w hf ha hb h hw
    by_cases hal : a < inp.length
    · obtain ⟨k, hk⟩ : ∃ k, inp[a]? = some k := ⟨_, List.getElem?_eq_getElem hal⟩
      have hd : inp.drop a = k :: inp.drop (a + 1) := by
        rw [List.drop_eq_getElem_cons hal]
        congr 1
        exact (List.getElem?_eq_some_iff.1 hk).2
      by_cases h2 : k = 2
      · exact read_k2 base gp gt v nds inp a k hk hL wv w h (by omega) h2 wayl f hf hw hb ih
      rw [hd]
      by_cases h0 : k = 0
      · exact (read_k0 base gp gt v nds inp a k hk hL wv w h (by omega) h0).mono fun e w' hp => by rw [h0]; exact hp
      by_cases h1 : k = 1
      · exact (read_k1 base gp gt v nds inp a k hk hL wv w h (by omega) h1 wayl (by omega) hw).mono fun e w' hp => by rw [h1]; exact res1_rd (f := f + 1) ▸ hp
      by_cases h3 : k = 3
      · exact (read_k3 base gp gt v nds inp a k hk hL wv w h (by omega) h3).mono fun e w' hp => by rw [h3]; exact res3_rd (f := f + 1) ▸ hp
      · exact (read_kx base gp gt v nds inp a k hk hL wv w h (by omega) (four_le h0 h1 h2 h3)).mono fun e w' hp => by rw [rd_kx h0 h1 h2 h3]; exact hp
    · have ha' : a = inp.length := by omega
      rw [List.drop_eq_nil_of_le (by omega)]
      exact read_end base gp gt v nds inp a ha' hL wv w h (by omega)
theorem RK.below {w w' : World} {gp gt B : Nat} {v v' : Value} (k : RK w w' gp gt v v') (hp : B ≤ gp) (ht : B ≤ gt) (hv : ∀ g, v.ownBlock = some g → B ≤ g) (hB : B ≤ w.heap.size := by omega) : Below B w w' :=
  ⟨k.1, k.2.1, k.2.2.1, k.2.2.2.1, fun i hi => k.2.2.2.2.1 i (by omega) (by omega) (by omega) (fun e => by have := hv i e; omega)⟩
def RParseRes (l : List UInt8) (e : Ending) (w' : World) : Prop := match parseB l with
  | .ok p => ∃ gp gn c nds, e = .returned (.tuple #[.pointer (some ⟨gp, 0, none⟩), .int .i64 0]) ∧ nds.length ≤ 1000000 ∧ NAt nds 0 p ∧ PS w' gp gn nds c
  | .error n => e = .returned (.tuple #[.pointer none, .int .i64 (n : Int)]) ∧ n ≠ 0
set_option maxRecDepth 100000 in
set_option maxHeartbeats 4000000 in
theorem rparse_any (v : Value) (l : List UInt8) (w : World) (hv : By w 0 w.heap.size v l) (hL : l.length ≤ 40000) :
    Calls Try.prog 6 #[v] w fun e w' => RParseRes l e w' ∧ Below w.heap.size w w' := by
  obtain ⟨W0, hW0⟩ : ∃ x, x = (w.alloc (Obj.cells #[v, .int .i64 0, .int .i64 0] 59)).alloc (Obj.cells #[.slice none 0 0] 62) := ⟨_, rfl⟩
  have B0 : Below w.heap.size w W0 := by rw [hW0]; exact ((Below.refl _ _).alloc (Nat.le_refl _) _).alloc (by simp) _
  have T0 : Bk W0 w.heap.size 59 [v, .int .i64 ((0 : Nat) : Int), .int .i64 0] := by rw [hW0]; exact (Bk.new w _ [_, _, _]).alloc _
  have P0 : Bk W0 (w.heap.size + 1) 62 [.slice none 0 0] := by rw [hW0]; simpa using Bk.new (w.alloc (Obj.cells #[v, .int .i64 0, .int .i64 0] 59)) 62 [.slice none 0 0]
  have z0 : W0.heap.size = w.heap.size + 2 := by rw [hW0]; simp
  have R0 : RSt W0 (w.heap.size + 2) (w.heap.size + 1) w.heap.size (.slice none 0 0) [] l 0 0 := ⟨P0, NS.nil _ _, ⟨v, T0, hv.below B0⟩, by omega, by omega, by omega, by omega, by simp⟩
  have Y0 : WY W0 (w.heap.size + 1) w.heap.size (.slice none 0 0) (.slice none 0 0) [] := ⟨World.ownsRow_nil _ _ _ _, fun g hg => by simp [Value.ownBlock] at hg⟩
  have hn := read_any (base := w.heap.size + 2) (gp := w.heap.size + 1) (gt := w.heap.size) (inp := l) (by omega) 256 [] (.slice none 0 0) (.slice none 0 0) [] 0 W0 rfl (by omega) (by simp; omega) R0 Y0
  obtain ⟨A, c, hv1, hc1, hc2, _⟩ := hv.open_
  clear hv R0 Y0 T0 P0
  subst hv1
  have HN := Lib.hid hn
  clear hn
  go_enter Try.func6, Try.ntmps6
  go_wp2_with fail
  rw [← hW0]
  clear hW0
  refine HN.out.mono ?_
  rintro e w1 ⟨rfl, v', ext, a', bad', R, K, h1, h2, h3, h4, h5⟩
  obtain ⟨tv, T, _⟩ := R.2.2.1
  have c1 : w1.cell? ⟨w.heap.size, 1, none⟩ = some (.int .i64 (a' : Int)) := T.at_ rfl
  have c2 : w1.cell? ⟨w.heap.size, 2, none⟩ = some (.int .i64 bad') := T.at_ rfl
  have B1 : Below w.heap.size w w1 := B0.trans (RK.below K (Nat.le_succ _) (Nat.le_refl _) (fun g hg => by simp [Value.ownBlock] at hg))
  rw [List.drop_zero] at h5
  rw [List.nil_append] at R
  have HR := Lib.hid R
  clear R K T HN h3 h4
  cases hr : rd 256 [] l with
  | error n =>
    rw [hr] at h5
    simp only at h5
    have hn0 : n ≠ 0 := by rcases rd_short hr with rfl | rfl <;> decide
    have hb : (bad' == 0) = false := beq_eq_false_iff_ne.2 (by rw [h5]; omega)
    have hb2 : (bad' != 0) = true := by rw [bne_iff_ne]; rw [h5]; omega
    have hp : parseB l = .error n := by unfold parseB; rw [hr]
    have HP := Lib.hid hp
    have H5 := Lib.hid h5
    clear hp hr h5
    go_wp2_with fail
    go_quiet (fail)
    go_wp2_with fail
    go_ret2
    refine ⟨?_, below_drewN B1 _⟩
    unfold RParseRes
    rw [HP.out]
    have h5 := H5.out
    subst h5
    exact ⟨rfl, hn0⟩
  | ok x =>
    obtain ⟨p, rest⟩ := x
    rw [hr] at h5
    obtain ⟨hl, hrest, rfl⟩ := h5
    by_cases hend : a' < l.length
    · have hp : parseB l = .error 11 := by
        unfold parseB; rw [hr]
        cases hq : rest with
        | nil => rw [hq] at hrest; have := congrArg List.length hrest; simp at this; omega
        | cons _ _ => rfl
      have HP := Lib.hid hp
      have hlt : decide (a' < l.length) = true := decide_eq_true hend
      clear hp hr hrest hl
      go_wp2_with fail
      go_ret2
      refine ⟨?_, B1⟩
      unfold RParseRes
      rw [HP.out]
      exact ⟨rfl, by decide⟩
    · have hp : parseB l = .ok p := by
        unfold parseB; rw [hr]
        cases hq : rest with
        | nil => rfl
        | cons _ _ => rw [hq] at hrest; have := congrArg List.length hrest; simp at this; omega
      have HP := Lib.hid hp
      have HL := Lib.hid hl
      have hlt : decide (a' < l.length) = false := decide_eq_false hend
      clear hp hr hrest hl
      go_wp2_with fail
      go_ret2
      refine ⟨?_, B1⟩
      unfold RParseRes
      rw [HP.out]
      have hR := HR.out
      rw [HL.out] at hR
      have hpos : 0 < (p.lay ([] : List NV).length).length := by rw [Pt.lay_length]; cases p <;> simp [Pt.cnt] <;> omega
      obtain ⟨gn, c', hv', _⟩ := hR.2.1.some hpos
      subst hv'
      obtain ⟨tl, hnd, _, _⟩ := hR.nodes hpos
      exact ⟨_, gn, c', _, rfl, Nat.le_trans hR.2.2.2.2.2.2.2 (by omega), by have := NAt_lay p [] [] 0 rfl; simpa using this, tl, hR.1, hnd⟩
end Go.Proofs.Ytlegpkdighoflaa
