/- witanref10: Part.read, kind by kind (printed by gen_rread.py). -/
import Derived.Test.YtlegpkdighoflaaRRead
set_option linter.unusedVariables false
set_option linter.unusedSimpArgs false
namespace Go.Proofs.Ytlegpkdighoflaa
open Go Go.RowKit Sh
theorem wrap64_n8 (k : UInt8) : wrap64 (n8 k) = n8 k := IntWalk.wrap64_in _ (by have := n8_bd k; omega)
def ndK (k : Int) : NV := ⟨k, z8 32, z8 32, -1, -1⟩
theorem thash_any (g : Nat) (l : List UInt8) (a : Nat) (w : World) (bad : Int) (ha : a ≤ 1000000) (hl : l.length ≤ 1000000) (h : Tp w g l a bad) :
    Calls Try.prog 32 #[.pointer (some ⟨g, 0, none⟩)] w fun e w' => ∃ (x : List UInt8) (a' : Nat) (bad' : Int), e = .returned (A8 x) ∧ x.length = 32 ∧ Tp w' g l a' bad' ∧ w.grownBy w' (some g) ∧ a ≤ a' ∧ (a ≤ l.length → a' ≤ l.length) ∧
      ((bad = 0 ∧ a + 32 ≤ l.length ∧ x = (l.drop a).take 32 ∧ a' = a + 32 ∧ bad' = 0) ∨ (bad = 0 ∧ l.length < a + 32 ∧ a' = a ∧ bad' = 10) ∨ (bad ≠ 0 ∧ a' = a ∧ bad' = bad)) := by
  by_cases hb : bad = 0
  · subst hb
    by_cases hl2 : a + 32 ≤ l.length
    · exact (thash_ok g l a w hl2 hl h).mono fun e w' ⟨h1, h2, h3⟩ => ⟨_, _, _, h1, by simp; omega, h2, h3, by omega, by omega, .inl ⟨rfl, hl2, rfl, rfl, rfl⟩⟩
    · exact (thash_short g l a w (by omega) ha hl h).mono fun e w' ⟨h1, h2, h3⟩ => ⟨_, _, _, h1, by simp, h2, h3, by omega, by omega, .inr (.inl ⟨rfl, by omega, rfl, rfl⟩)⟩
  · exact (thash_bad g l a w bad hb h).mono fun e w' ⟨h1, h2, h3⟩ => ⟨_, _, _, h1, by simp, h2, h3, by omega, fun h => h, .inr (.inr ⟨hb, rfl, rfl⟩)⟩
theorem RSt.putv {w : World} {base gp gt gn c : Nat} {nds : List NV} {inp : List UInt8} {a : Nat} {bad : Int} {k : Int} {kk x : List UInt8} (hx : x.length = 32) (h : RSt w base gp gt (.slice (some ⟨gn, 0, none⟩) (nds.length + 1) c) (nds ++ [⟨k, kk, z8 32, -1, -1⟩]) inp a bad) (hkk : kk.length = 32) :
    (∀ m, RSt (putAt (w.drewN m) ⟨gn, nds.length * 67 + 33, none⟩ (c8 x)) base gp gt (.slice (some ⟨gn, 0, none⟩) (nds.length + 1) c) (nds ++ [⟨k, kk, x, -1, -1⟩]) inp a bad ∧
    RK w (putAt (w.drewN m) ⟨gn, nds.length * 67 + 33, none⟩ (c8 x)) gp gt (.slice (some ⟨gn, 0, none⟩) (nds.length + 1) c) (.slice (some ⟨gn, 0, none⟩) (nds.length + 1) c) ∧ canAt (w.drewN m) ⟨gn, nds.length * 67 + 33, none⟩ 32 = true) := by
  intro m
  have B : Below w.heap.size w (w.drewN m) := below_drewN (Below.refl _ _) m
  have h' := h.below B
  have e : nds.length + 1 = (nds ++ [(⟨k, kk, z8 32, -1, -1⟩ : NV)]).length := by simp
  rw [e] at h' ⊢
  have hok : (⟨k, kk, z8 32, -1, -1⟩ : NV).Ok := ⟨hkk, by simp⟩
  obtain ⟨tl, hn, _, _⟩ := h'.nodes (by simp)
  have h2 := h'.putc (i := nds.length) (x := ⟨k, kk, z8 32, -1, -1⟩) (y := ⟨k, kk, x, -1, -1⟩) (by simp) ⟨hkk, hx⟩ (j := 33) (vs := c8 x) (by simp [hx]) (NV.part_value hok hx)
  have e2 : (nds ++ [(⟨k, kk, z8 32, -1, -1⟩ : NV)]).set nds.length ⟨k, kk, x, -1, -1⟩ = nds ++ [⟨k, kk, x, -1, -1⟩] := by simp
  rw [e2] at h2
  exact ⟨h2.1, (RK.of_below gp gt _ B).trans h2.2, hn.2.can (by have := length_nflat hn.1; simp [this]; omega)⟩
theorem RSt.putk {w : World} {base gp gt gn c : Nat} {nds : List NV} {inp : List UInt8} {a : Nat} {bad : Int} {k : Int} {x : List UInt8} (hx : x.length = 32) (h : RSt w base gp gt (.slice (some ⟨gn, 0, none⟩) (nds.length + 1) c) (nds ++ [ndK k]) inp a bad) :
    (∀ m, RSt (putAt (w.drewN m) ⟨gn, nds.length * 67 + 1, none⟩ (c8 x)) base gp gt (.slice (some ⟨gn, 0, none⟩) (nds.length + 1) c) (nds ++ [⟨k, x, z8 32, -1, -1⟩]) inp a bad ∧
    RK w (putAt (w.drewN m) ⟨gn, nds.length * 67 + 1, none⟩ (c8 x)) gp gt (.slice (some ⟨gn, 0, none⟩) (nds.length + 1) c) (.slice (some ⟨gn, 0, none⟩) (nds.length + 1) c) ∧ canAt (w.drewN m) ⟨gn, nds.length * 67 + 1, none⟩ 32 = true ∧ gn < w.heap.size) := by
  intro m
  have B : Below w.heap.size w (w.drewN m) := below_drewN (Below.refl _ _) m
  have h' := h.below B
  have e : nds.length + 1 = (nds ++ [ndK k]).length := by simp
  rw [e] at h' ⊢
  have hok : (ndK k).Ok := ⟨by simp [ndK], by simp [ndK]⟩
  obtain ⟨tl, hn, _, _⟩ := h'.nodes (by simp)
  have h2 := h'.putc (i := nds.length) (x := ndK k) (y := ⟨k, x, z8 32, -1, -1⟩) (by simp) ⟨hx, by simp⟩ (j := 1) (vs := c8 x) (by simp [hx]) (NV.part_key hok hx)
  have e2 : (nds ++ [ndK k]).set nds.length ⟨k, x, z8 32, -1, -1⟩ = nds ++ [⟨k, x, z8 32, -1, -1⟩] := by simp
  rw [e2] at h2
  exact ⟨h2.1, (RK.of_below gp gt _ B).trans h2.2, hn.2.can (by have := length_nflat hn.1; simp [this]; omega), hn.lt⟩
def res3 (inp : List UInt8) (a : Nat) : Except Nat (Pt × List UInt8) := if inp.length < a + 33 then .error 10 else .ok (.hd ((inp.drop (a + 1)).take 32), inp.drop (a + 33))
def res1 (inp : List UInt8) (a : Nat) (way : List Bool) : Except Nat (Pt × List UInt8) := if inp.length < a + 65 then .error 10 else if chk way ((inp.drop (a + 1)).take 32) then .ok (.lf ((inp.drop (a + 1)).take 32) ((inp.drop (a + 33)).take 32), inp.drop (a + 65)) else .error 13
def wayV (way : List Bool) : List Value := way.map fun b => .int .i64 (bitInt b)
/-- The slice that bears the way, apart from the part, the tape and the nodes. -/
def WY (w : World) (gp gt : Nat) (v wv : Value) (way : List Bool) : Prop := w.ownsRow 0 3 1 wv way.length (wayV way) ∧ ∀ g, wv.ownBlock = some g → g ≠ gp ∧ g ≠ gt ∧ v.ownBlock ≠ some g
theorem WY.rk {w w' : World} {gp gt : Nat} {v v' wv : Value} {way : List Bool} (h : WY w gp gt v wv way) (k : RK w w' gp gt v v') : WY w' gp gt v' wv way := by
  obtain ⟨⟨h0, h1⟩, h2⟩ := h
  refine ⟨⟨h0, ?_⟩, fun g hg => ?_⟩
  · rcases h1 with h1 | ⟨g, cap, cur, e, hb, hh, r⟩
    · exact .inl h1
    · subst e
      obtain ⟨a1, a2, a3⟩ := h2 g rfl
      exact .inr ⟨g, cap, cur, rfl, hb, (k.2.2.2.2.1 g (Array.getElem?_eq_some_iff.1 hh).1 a1 a2 a3).trans hh, r⟩
  · obtain ⟨a1, a2, a3⟩ := h2 g hg
    have hl := (World.ownsRow.lt (base := 0) ⟨h0, h1⟩ g hg).2
    refine ⟨a1, a2, ?_⟩
    rcases k.2.2.2.2.2 with h6 | ⟨g', h6, h7⟩
    · rw [h6]; exact a3
    · rw [h6]; intro e; injection e with e; omega
theorem WY.cell {w : World} {gp gt : Nat} {v : Value} {A : Option Addr} {c n : Nat} {way : List Bool} (h : WY w gp gt v (.slice A n c) way) {i : Nat} {b : Bool} (hb : way[i]? = some b) : ∃ g, A = some ⟨g, 0, none⟩ ∧ w.cell? ⟨g, i, none⟩ = some (.int .i64 (bitInt b)) := by
  obtain ⟨⟨h0, h1⟩, h2⟩ := h
  rcases h1 with ⟨_, e⟩ | ⟨g, cap, cur, e, hbb, hh, r⟩
  · have := (List.getElem?_eq_some_iff.1 hb).1; omega
  · have e1 : A = some ⟨g, 0, none⟩ := by injection e
    subst e1
    refine ⟨g, rfl, ?_⟩
    have hc := World.ownsRow.cells (base := 0) (v := .slice (some ⟨g, 0, none⟩) n c) ⟨h0, .inr ⟨g, cap, cur, e, hbb, hh, r⟩⟩ (g := g) rfl i (.int .i64 (bitInt b)) (by simp [wayV, List.getElem?_map, hb])
    rwa [addr_lit, Nat.zero_add] at hc
theorem badN_step {way : List Bool} {kk : List UInt8} {i : Nat} {bad : Int} {b : Bool} (hb : way[i]? = some b) : badF (bitInt (kbit kk i) != bitInt b) (badN bad (chkTo way kk i)) = badN bad (chkTo way kk (i + 1)) := by
  have e : wayP way i = b := by simp [wayP, List.getD_eq_getElem?_getD, hb]
  have e2 : (bitInt (kbit kk i) != bitInt b) = !(kbit kk i == wayP way i) := by
    rw [e]; cases kbit kk i <;> cases b <;> rfl
  rw [e2, chkTo_succ]
  unfold badF badN
  by_cases hb : bad = 0
  · subst hb
    cases chkTo way kk i <;> cases (kbit kk i == wayP way i) <;> rfl
  · have : (bad == 0) = false := beq_eq_false_iff_ne.2 hb
    simp [this]
theorem RSt.hi {w : World} {base gp gt gn c n : Nat} {nds : List NV} {inp : List UInt8} {a : Nat} {bad : Int} (h : RSt w base gp gt (.slice (some ⟨gn, 0, none⟩) n c) nds inp a bad) : gn < w.heap.size ∧ gt < w.heap.size ∧ gp < w.heap.size := ⟨(h.2.1.2.lt gn rfl).2, h.2.2.1.lt, h.1.lt⟩
theorem res1_fin {inp : List UInt8} {a a1 a2 n0 : Nat} {bad1 bad2 : Int} {kk x : List UInt8} {way : List Bool}
    (h1 : (True ∧ a + 1 + 32 ≤ inp.length ∧ kk = (inp.drop (a + 1)).take 32 ∧ a1 = a + 1 + 32 ∧ bad1 = 0) ∨ (True ∧ inp.length < a + 1 + 32 ∧ a1 = a + 1 ∧ bad1 = 10) ∨ (((0 : Int) ≠ 0) ∧ a1 = a + 1 ∧ bad1 = 0))
    (h2 : (bad1 = 0 ∧ a1 + 32 ≤ inp.length ∧ x = (inp.drop a1).take 32 ∧ a2 = a1 + 32 ∧ bad2 = 0) ∨ (bad1 = 0 ∧ inp.length < a1 + 32 ∧ a2 = a1 ∧ bad2 = 10) ∨ (bad1 ≠ 0 ∧ a2 = a1 ∧ bad2 = bad1)) :
    match res1 inp a way with | .ok y => [(⟨n8 1, kk, x, -1, -1⟩ : NV)] = y.1.lay n0 ∧ y.2 = inp.drop a2 ∧ badN bad2 (chk way kk) = 0 | .error n => badN bad2 (chk way kk) = (n : Int) := by
  have t : badN 10 (chk way kk) = 10 := by simp [badN]
  unfold res1
  rcases h1 with ⟨_, b1, b2, b3, b4⟩ | ⟨_, b1, b2, b3⟩ | ⟨b1, _⟩
  · subst b2 b3 b4
    rcases h2 with ⟨_, c1, c2, c3, c4⟩ | ⟨_, c1, c2, c3⟩ | ⟨c1, _⟩
    · subst c2 c3 c4
      rw [if_neg (by omega)]
      cases hc : chk way ((inp.drop (a + 1)).take 32) with
      | true => exact ⟨rfl, rfl, rfl⟩
      | false => rfl
    · subst c2 c3
      rw [if_pos (by omega)]
      exact t
    · exact absurd rfl c1
  · subst b2 b3
    rcases h2 with ⟨c1, _⟩ | ⟨c1, _⟩ | ⟨_, c2, c3⟩
    · cases c1
    · cases c1
    · subst c2 c3
      rw [if_pos (by omega)]
      exact t
  · exact absurd rfl b1
theorem Tp.frozen {w : World} {gt : Nat} {inp : List UInt8} {a : Nat} {bad : Int} (h : Tp w gt inp a bad) : w.frozen? ⟨gt, 1, none⟩ = false := let ⟨_, t, _⟩ := h; t.frozen 1
set_option maxRecDepth 100000 in
set_option maxHeartbeats 4000000 in
theorem read_k0 (base gp gt : Nat) (v : Value) (nds : List NV) (inp : List UInt8) (a : Nat) (k : UInt8) (hk : inp[a]? = some k) (hL : inp.length ≤ 1000000) (way : Value) (w : World) (h : RSt w base gp gt v nds inp a 0) (hnl : nds.length < 100000)
    (hk0 : k = 0) :
    Calls Try.prog 18 #[.pointer (some ⟨gp, 0, none⟩), .pointer (some ⟨gt, 0, none⟩), way] w fun e w' => ReadPost w base gp gt v nds inp a (.ok (.e, inp.drop (a + 1))) e w' := by
  have q0 : (n8 k == 0) = true := by subst hk0; rfl
  have HK0 := Lib.hid hk0
  clear hk0
  have HS := Lib.hid h
  obtain ⟨h1, h2, h3, h4, h5, h6, h7, h8⟩ := h
  obtain ⟨A, c, rfl, hc1, hc2⟩ := h2.form
  have p0 := h1.at_ (i := 0) rfl
  have zp := h1.lt
  have zt := h3.lt
  have H2 := Lib.hid h2
  clear h2
  have hal : a < inp.length := (List.getElem?_eq_some_iff.1 hk).1
  have hge : decide (inp.length ≤ a) = false := decide_eq_false (by omega)
  have HK := Lib.hid hk
  clear hk
  go_enter Try.func18, Try.ntmps18
  go_wp2_with (at_builtin; refine appN rfl _ _ rfl rfl H2.out nd0 nd0_ok rfl rfl (by omega) h7 ?_; intro gn c4 w4 hc4 hc5 hO4 hB4 hg4 ha4; have f4 := (h1.below hB4 h4).frozen 0; have p4 := (h1.below hB4 h4).at_ (i := 0) rfl; have HR := Lib.hid (HS.out.grow hnl hO4 hB4 hg4 ha4); clear hO4 hB4 hg4 ha4)
  obtain ⟨W5, hW5⟩ : ∃ y, y = w4.setCell ⟨gp, 0, none⟩ (.slice (some ⟨gn, 0, none⟩) (nds.length + 1) c4) := ⟨_, rfl⟩
  rw [← hW5] at HR ⊢
  obtain ⟨R5, K5⟩ := HR.out
  obtain ⟨tv, T5, Y5⟩ := R5.2.2.1
  obtain ⟨gi, oi, ct, rfl, ht1, ht2, _, hgi, hrow⟩ := Y5.row (by omega)
  have ei : W5.cell? ⟨gi, oi + a, none⟩ = some (.int .u8 (n8 k)) := by
    have h1 := (rowAt_some hrow).2 a (v8 k) (by simp only [c8, List.getElem?_map, HK.out, Option.map_some])
    rwa [addr_lit] at h1
  have c0 : W5.cell? ⟨gt, 0, none⟩ = some (.slice (some ⟨gi, oi, none⟩) inp.length ct) := T5.at_ rfl
  have c1 : W5.cell? ⟨gt, 1, none⟩ = some (.int .i64 (a : Int)) := T5.at_ rfl
  have c2 : W5.cell? ⟨gt, 2, none⟩ = some (.int .i64 0) := T5.at_ rfl
  have R6 := Lib.hid R5
  clear hW5 HR R5 f4 p4 p0 h1 h3 H2 HS T5 Y5 hrow
  go_quiet (fail)
  obtain ⟨W6, hW6⟩ : ∃ y, y = W5.drewN nq := ⟨_, rfl⟩
  rw [← hW6]
  have d0 : W6.cell? ⟨gt, 0, none⟩ = some (.slice (some ⟨gi, oi, none⟩) inp.length ct) := by rw [hW6]; exact c0
  have d1 : W6.cell? ⟨gt, 1, none⟩ = some (.int .i64 (a : Int)) := by rw [hW6]; exact c1
  have d2 : W6.cell? ⟨gt, 2, none⟩ = some (.int .i64 0) := by rw [hW6]; exact c2
  have di : W6.cell? ⟨gi, oi + a, none⟩ = some (.int .u8 (n8 k)) := by rw [hW6]; exact ei
  have R6' : RSt W6 base gp gt (.slice (some ⟨gn, 0, none⟩) (nds.length + 1) c4) (nds ++ [nd0]) inp a 0 := by rw [hW6]; exact R6.out.below (below_drewN (Below.refl _ _) _)
  have K6 : RK w W6 gp gt _ _ := K5.trans (by rw [hW6]; exact (RK.of_below gp gt _ (below_drewN (Below.refl _ _) nq)))
  clear hW6 c0 c1 c2 ei R6 K5
  go_wp2_with fail
  go_quiet (fail)
  rw [wrap64_n8]
  obtain ⟨W7, hW7⟩ : ∃ y, y = W6.drewN nq := ⟨_, rfl⟩
  rw [← hW7]
  have d0' : W7.cell? ⟨gt, 1, none⟩ = some (.int .i64 (a : Int)) := by rw [hW7]; exact d1
  have R7 : RSt W7 base gp gt (.slice (some ⟨gn, 0, none⟩) (nds.length + 1) c4) (nds ++ [nd0]) inp a 0 := by rw [hW7]; exact R6'.below (below_drewN (Below.refl _ _) _)
  have K7 : RK w W7 gp gt _ _ := K6.trans (by rw [hW7]; exact (RK.of_below gp gt _ (below_drewN (Below.refl _ _) nq)))
  clear hW7 d0 d1 d2 di R6' K6
  have t1 := R7.2.2.1.frozen
  have R8 := R7.tape (R7.2.2.1.setAt (a + 1)) (grown_setc _ _ _ _)
  have eL : nds.length + 1 = (nds ++ [nd0]).length := by simp
  have R8' := R8.1
  rw [show (Value.slice (some ⟨gn, 0, none⟩) (nds.length + 1) c4) = Value.slice (some ⟨gn, 0, none⟩) (nds ++ [nd0]).length c4 by rw [← eL]] at R8'
  obtain ⟨tl8, N8, hb8, _⟩ := R8'.nodes (by simp)
  have R9 := R8'.setc (i := nds.length) (x := nd0) (y := ndK (n8 k)) (by simp) nd0_ok (j := 0) (by omega) (NV.part_kind nd0 (n8 k))
  have eS : (nds ++ [nd0]).set nds.length (ndK (n8 k)) = nds ++ [ndK (n8 k)] := by simp
  rw [eS, ← eL] at R9
  have K9 := (K7.trans R8.2).trans R9.2
  have n0 := N8.kind (i := nds.length) (x := nd0) (by simp)
  have fn := N8.2.frozen (nds.length * 67)
  have gp8 := R8'.1.at_ (i := 0) rfl
  rw [← eL] at gp8
  clear R7 K7 R8 R8' N8 eL eS
  have eA : (((a + 1 : Nat) : Nat) : Int) = (a : Int) + 1 := by omega
  obtain ⟨W8, hW8⟩ : ∃ y, y = W7.setCell ⟨gt, 1, none⟩ (.int .i64 ((a + 1 : Nat) : Int)) := ⟨_, rfl⟩
  simp only [Nat.add_zero] at R9 K9
  obtain ⟨W9, hW9⟩ : ∃ y, y = W8.setCell ⟨gn, nds.length * 67, none⟩ (.int .i64 (n8 k)) := ⟨_, rfl⟩
  rw [← hW8] at R9 K9 n0 fn gp8
  rw [← hW9] at R9 K9
  have R10 := R9.1
  clear R9
  have gp9 := R10.1.at_ (i := 0) rfl
  have bad9 : W9.cell? ⟨gt, 2, none⟩ = some (.int .i64 0) := let ⟨_, t, _⟩ := R10.2.2.1; t.at_ rfl
  have HR10 := Lib.hid R10
  have HK10 := Lib.hid K9
  rw [eA] at hW8
  rw [hW8] at n0 fn gp8
  have HW9 := Lib.hid hW9
  have HW8 := Lib.hid hW8
  clear R10 K9 eA hW9 hW8
  go_wp2_with fail
  rw [← HW8.out, ← HW9.out]
  go_ret
  have hk0 := HK0.out
  subst hk0
  exact ⟨rfl, _, [nd0], a + 1, 0, HR10.out, HK10.out, by omega, by omega, by simp, by simp, rfl, rfl, rfl⟩
set_option maxRecDepth 100000 in
set_option maxHeartbeats 4000000 in
theorem read_kx (base gp gt : Nat) (v : Value) (nds : List NV) (inp : List UInt8) (a : Nat) (k : UInt8) (hk : inp[a]? = some k) (hL : inp.length ≤ 1000000) (way : Value) (w : World) (h : RSt w base gp gt v nds inp a 0) (hnl : nds.length < 100000)
    (hkx : 4 ≤ k.toNat) :
    Calls Try.prog 18 #[.pointer (some ⟨gp, 0, none⟩), .pointer (some ⟨gt, 0, none⟩), way] w fun e w' => ReadPost w base gp gt v nds inp a (.error 13) e w' := by
  have HS := Lib.hid h
  obtain ⟨h1, h2, h3, h4, h5, h6, h7, h8⟩ := h
  obtain ⟨A, c, rfl, hc1, hc2⟩ := h2.form
  have p0 := h1.at_ (i := 0) rfl
  have zp := h1.lt
  have zt := h3.lt
  have H2 := Lib.hid h2
  clear h2
  have hal : a < inp.length := (List.getElem?_eq_some_iff.1 hk).1
  have hge : decide (inp.length ≤ a) = false := decide_eq_false (by omega)
  have HK := Lib.hid hk
  clear hk
  go_enter Try.func18, Try.ntmps18
  go_wp2_with (at_builtin; refine appN rfl _ _ rfl rfl H2.out nd0 nd0_ok rfl rfl (by omega) h7 ?_; intro gn c4 w4 hc4 hc5 hO4 hB4 hg4 ha4; have f4 := (h1.below hB4 h4).frozen 0; have p4 := (h1.below hB4 h4).at_ (i := 0) rfl; have HR := Lib.hid (HS.out.grow hnl hO4 hB4 hg4 ha4); clear hO4 hB4 hg4 ha4)
  obtain ⟨W5, hW5⟩ : ∃ y, y = w4.setCell ⟨gp, 0, none⟩ (.slice (some ⟨gn, 0, none⟩) (nds.length + 1) c4) := ⟨_, rfl⟩
  rw [← hW5] at HR ⊢
  obtain ⟨R5, K5⟩ := HR.out
  obtain ⟨tv, T5, Y5⟩ := R5.2.2.1
  obtain ⟨gi, oi, ct, rfl, ht1, ht2, _, hgi, hrow⟩ := Y5.row (by omega)
  have ei : W5.cell? ⟨gi, oi + a, none⟩ = some (.int .u8 (n8 k)) := by
    have h1 := (rowAt_some hrow).2 a (v8 k) (by simp only [c8, List.getElem?_map, HK.out, Option.map_some])
    rwa [addr_lit] at h1
  have c0 : W5.cell? ⟨gt, 0, none⟩ = some (.slice (some ⟨gi, oi, none⟩) inp.length ct) := T5.at_ rfl
  have c1 : W5.cell? ⟨gt, 1, none⟩ = some (.int .i64 (a : Int)) := T5.at_ rfl
  have c2 : W5.cell? ⟨gt, 2, none⟩ = some (.int .i64 0) := T5.at_ rfl
  have R6 := Lib.hid R5
  clear hW5 HR R5 f4 p4 p0 h1 h3 H2 HS T5 Y5 hrow
  go_quiet (fail)
  obtain ⟨W6, hW6⟩ : ∃ y, y = W5.drewN nq := ⟨_, rfl⟩
  rw [← hW6]
  have d0 : W6.cell? ⟨gt, 0, none⟩ = some (.slice (some ⟨gi, oi, none⟩) inp.length ct) := by rw [hW6]; exact c0
  have d1 : W6.cell? ⟨gt, 1, none⟩ = some (.int .i64 (a : Int)) := by rw [hW6]; exact c1
  have d2 : W6.cell? ⟨gt, 2, none⟩ = some (.int .i64 0) := by rw [hW6]; exact c2
  have di : W6.cell? ⟨gi, oi + a, none⟩ = some (.int .u8 (n8 k)) := by rw [hW6]; exact ei
  have R6' : RSt W6 base gp gt (.slice (some ⟨gn, 0, none⟩) (nds.length + 1) c4) (nds ++ [nd0]) inp a 0 := by rw [hW6]; exact R6.out.below (below_drewN (Below.refl _ _) _)
  have K6 : RK w W6 gp gt _ _ := K5.trans (by rw [hW6]; exact (RK.of_below gp gt _ (below_drewN (Below.refl _ _) nq)))
  clear hW6 c0 c1 c2 ei R6 K5
  go_wp2_with fail
  go_quiet (fail)
  rw [wrap64_n8]
  obtain ⟨W7, hW7⟩ : ∃ y, y = W6.drewN nq := ⟨_, rfl⟩
  rw [← hW7]
  have d0' : W7.cell? ⟨gt, 1, none⟩ = some (.int .i64 (a : Int)) := by rw [hW7]; exact d1
  have R7 : RSt W7 base gp gt (.slice (some ⟨gn, 0, none⟩) (nds.length + 1) c4) (nds ++ [nd0]) inp a 0 := by rw [hW7]; exact R6'.below (below_drewN (Below.refl _ _) _)
  have K7 : RK w W7 gp gt _ _ := K6.trans (by rw [hW7]; exact (RK.of_below gp gt _ (below_drewN (Below.refl _ _) nq)))
  clear hW7 d0 d1 d2 di R6' K6
  have t1 := R7.2.2.1.frozen
  have R8 := R7.tape (R7.2.2.1.setAt (a + 1)) (grown_setc _ _ _ _)
  have eL : nds.length + 1 = (nds ++ [nd0]).length := by simp
  have R8' := R8.1
  rw [show (Value.slice (some ⟨gn, 0, none⟩) (nds.length + 1) c4) = Value.slice (some ⟨gn, 0, none⟩) (nds ++ [nd0]).length c4 by rw [← eL]] at R8'
  obtain ⟨tl8, N8, hb8, _⟩ := R8'.nodes (by simp)
  have R9 := R8'.setc (i := nds.length) (x := nd0) (y := ndK (n8 k)) (by simp) nd0_ok (j := 0) (by omega) (NV.part_kind nd0 (n8 k))
  have eS : (nds ++ [nd0]).set nds.length (ndK (n8 k)) = nds ++ [ndK (n8 k)] := by simp
  rw [eS, ← eL] at R9
  have K9 := (K7.trans R8.2).trans R9.2
  have n0 := N8.kind (i := nds.length) (x := nd0) (by simp)
  have fn := N8.2.frozen (nds.length * 67)
  have gp8 := R8'.1.at_ (i := 0) rfl
  rw [← eL] at gp8
  clear R7 K7 R8 R8' N8 eL eS
  have eA : (((a + 1 : Nat) : Nat) : Int) = (a : Int) + 1 := by omega
  obtain ⟨W8, hW8⟩ : ∃ y, y = W7.setCell ⟨gt, 1, none⟩ (.int .i64 ((a + 1 : Nat) : Int)) := ⟨_, rfl⟩
  simp only [Nat.add_zero] at R9 K9
  obtain ⟨W9, hW9⟩ : ∃ y, y = W8.setCell ⟨gn, nds.length * 67, none⟩ (.int .i64 (n8 k)) := ⟨_, rfl⟩
  rw [← hW8] at R9 K9 n0 fn gp8
  rw [← hW9] at R9 K9
  have R10 := R9.1
  clear R9
  have gp9 := R10.1.at_ (i := 0) rfl
  have bad9 : W9.cell? ⟨gt, 2, none⟩ = some (.int .i64 0) := let ⟨_, t, _⟩ := R10.2.2.1; t.at_ rfl
  have HR10 := Lib.hid R10
  have HK10 := Lib.hid K9
  rw [eA] at hW8
  rw [hW8] at n0 fn gp8
  have HW9 := Lib.hid hW9
  have HW8 := Lib.hid hW8
  clear R10 K9 eA hW9 hW8
  have q0 : (n8 k == 0) = false := beq_eq_false_iff_ne.2 (by unfold n8; omega)
  have q1 : (n8 k == 1) = false := beq_eq_false_iff_ne.2 (by unfold n8; omega)
  have q2 : (n8 k == 2) = false := beq_eq_false_iff_ne.2 (by unfold n8; omega)
  have q3 : (n8 k == 3) = false := beq_eq_false_iff_ne.2 (by unfold n8; omega)
  go_wp2_with fail
  rw [← HW8.out, ← HW9.out]
  refine (form_any gt inp (a + 1) W9 0 true HR10.out.2.2.1).mono ?_
  rintro e w10 ⟨rfl, T10, G10⟩
  have RR := HR10.out.tape T10 G10
  go_wp2_with fail
  go_ret
  exact ⟨rfl, _, [_], a + 1, _, RR.1, HK10.out.trans RR.2, by omega, by omega, by simp, by simp, rfl⟩
set_option maxRecDepth 100000 in
set_option maxHeartbeats 4000000 in
theorem read_k3 (base gp gt : Nat) (v : Value) (nds : List NV) (inp : List UInt8) (a : Nat) (k : UInt8) (hk : inp[a]? = some k) (hL : inp.length ≤ 1000000) (way : Value) (w : World) (h : RSt w base gp gt v nds inp a 0) (hnl : nds.length < 100000)
    (hk0 : k = 3) :
    Calls Try.prog 18 #[.pointer (some ⟨gp, 0, none⟩), .pointer (some ⟨gt, 0, none⟩), way] w fun e w' => ReadPost w base gp gt v nds inp a (res3 inp a) e w' := by
  have q0 : (n8 k == 0) = false := by subst hk0; rfl
  have q1 : (n8 k == 1) = false := by subst hk0; rfl
  have q2 : (n8 k == 2) = false := by subst hk0; rfl
  have q3 : (n8 k == 3) = true := by subst hk0; rfl
  have HK0 := Lib.hid hk0
  clear hk0
  have HS := Lib.hid h
  obtain ⟨h1, h2, h3, h4, h5, h6, h7, h8⟩ := h
  obtain ⟨A, c, rfl, hc1, hc2⟩ := h2.form
  have p0 := h1.at_ (i := 0) rfl
  have zp := h1.lt
  have zt := h3.lt
  have H2 := Lib.hid h2
  clear h2
  have hal : a < inp.length := (List.getElem?_eq_some_iff.1 hk).1
  have hge : decide (inp.length ≤ a) = false := decide_eq_false (by omega)
  have HK := Lib.hid hk
  clear hk
  go_enter Try.func18, Try.ntmps18
  go_wp2_with (at_builtin; refine appN rfl _ _ rfl rfl H2.out nd0 nd0_ok rfl rfl (by omega) h7 ?_; intro gn c4 w4 hc4 hc5 hO4 hB4 hg4 ha4; have f4 := (h1.below hB4 h4).frozen 0; have p4 := (h1.below hB4 h4).at_ (i := 0) rfl; have HR := Lib.hid (HS.out.grow hnl hO4 hB4 hg4 ha4); clear hO4 hB4 hg4 ha4)
  obtain ⟨W5, hW5⟩ : ∃ y, y = w4.setCell ⟨gp, 0, none⟩ (.slice (some ⟨gn, 0, none⟩) (nds.length + 1) c4) := ⟨_, rfl⟩
  rw [← hW5] at HR ⊢
  obtain ⟨R5, K5⟩ := HR.out
  obtain ⟨tv, T5, Y5⟩ := R5.2.2.1
  obtain ⟨gi, oi, ct, rfl, ht1, ht2, _, hgi, hrow⟩ := Y5.row (by omega)
  have ei : W5.cell? ⟨gi, oi + a, none⟩ = some (.int .u8 (n8 k)) := by
    have h1 := (rowAt_some hrow).2 a (v8 k) (by simp only [c8, List.getElem?_map, HK.out, Option.map_some])
    rwa [addr_lit] at h1
  have c0 : W5.cell? ⟨gt, 0, none⟩ = some (.slice (some ⟨gi, oi, none⟩) inp.length ct) := T5.at_ rfl
  have c1 : W5.cell? ⟨gt, 1, none⟩ = some (.int .i64 (a : Int)) := T5.at_ rfl
  have c2 : W5.cell? ⟨gt, 2, none⟩ = some (.int .i64 0) := T5.at_ rfl
  have R6 := Lib.hid R5
  clear hW5 HR R5 f4 p4 p0 h1 h3 H2 HS T5 Y5 hrow
  go_quiet (fail)
  obtain ⟨W6, hW6⟩ : ∃ y, y = W5.drewN nq := ⟨_, rfl⟩
  rw [← hW6]
  have d0 : W6.cell? ⟨gt, 0, none⟩ = some (.slice (some ⟨gi, oi, none⟩) inp.length ct) := by rw [hW6]; exact c0
  have d1 : W6.cell? ⟨gt, 1, none⟩ = some (.int .i64 (a : Int)) := by rw [hW6]; exact c1
  have d2 : W6.cell? ⟨gt, 2, none⟩ = some (.int .i64 0) := by rw [hW6]; exact c2
  have di : W6.cell? ⟨gi, oi + a, none⟩ = some (.int .u8 (n8 k)) := by rw [hW6]; exact ei
  have R6' : RSt W6 base gp gt (.slice (some ⟨gn, 0, none⟩) (nds.length + 1) c4) (nds ++ [nd0]) inp a 0 := by rw [hW6]; exact R6.out.below (below_drewN (Below.refl _ _) _)
  have K6 : RK w W6 gp gt _ _ := K5.trans (by rw [hW6]; exact (RK.of_below gp gt _ (below_drewN (Below.refl _ _) nq)))
  clear hW6 c0 c1 c2 ei R6 K5
  go_wp2_with fail
  go_quiet (fail)
  rw [wrap64_n8]
  obtain ⟨W7, hW7⟩ : ∃ y, y = W6.drewN nq := ⟨_, rfl⟩
  rw [← hW7]
  have d0' : W7.cell? ⟨gt, 1, none⟩ = some (.int .i64 (a : Int)) := by rw [hW7]; exact d1
  have R7 : RSt W7 base gp gt (.slice (some ⟨gn, 0, none⟩) (nds.length + 1) c4) (nds ++ [nd0]) inp a 0 := by rw [hW7]; exact R6'.below (below_drewN (Below.refl _ _) _)
  have K7 : RK w W7 gp gt _ _ := K6.trans (by rw [hW7]; exact (RK.of_below gp gt _ (below_drewN (Below.refl _ _) nq)))
  clear hW7 d0 d1 d2 di R6' K6
  have t1 := R7.2.2.1.frozen
  have R8 := R7.tape (R7.2.2.1.setAt (a + 1)) (grown_setc _ _ _ _)
  have eL : nds.length + 1 = (nds ++ [nd0]).length := by simp
  have R8' := R8.1
  rw [show (Value.slice (some ⟨gn, 0, none⟩) (nds.length + 1) c4) = Value.slice (some ⟨gn, 0, none⟩) (nds ++ [nd0]).length c4 by rw [← eL]] at R8'
  obtain ⟨tl8, N8, hb8, _⟩ := R8'.nodes (by simp)
  have R9 := R8'.setc (i := nds.length) (x := nd0) (y := ndK (n8 k)) (by simp) nd0_ok (j := 0) (by omega) (NV.part_kind nd0 (n8 k))
  have eS : (nds ++ [nd0]).set nds.length (ndK (n8 k)) = nds ++ [ndK (n8 k)] := by simp
  rw [eS, ← eL] at R9
  have K9 := (K7.trans R8.2).trans R9.2
  have n0 := N8.kind (i := nds.length) (x := nd0) (by simp)
  have fn := N8.2.frozen (nds.length * 67)
  have gp8 := R8'.1.at_ (i := 0) rfl
  rw [← eL] at gp8
  clear R7 K7 R8 R8' N8 eL eS
  have eA : (((a + 1 : Nat) : Nat) : Int) = (a : Int) + 1 := by omega
  obtain ⟨W8, hW8⟩ : ∃ y, y = W7.setCell ⟨gt, 1, none⟩ (.int .i64 ((a + 1 : Nat) : Int)) := ⟨_, rfl⟩
  simp only [Nat.add_zero] at R9 K9
  obtain ⟨W9, hW9⟩ : ∃ y, y = W8.setCell ⟨gn, nds.length * 67, none⟩ (.int .i64 (n8 k)) := ⟨_, rfl⟩
  rw [← hW8] at R9 K9 n0 fn gp8
  rw [← hW9] at R9 K9
  have R10 := R9.1
  clear R9
  have gp9 := R10.1.at_ (i := 0) rfl
  have bad9 : W9.cell? ⟨gt, 2, none⟩ = some (.int .i64 0) := let ⟨_, t, _⟩ := R10.2.2.1; t.at_ rfl
  have HR10 := Lib.hid R10
  have HK10 := Lib.hid K9
  rw [eA] at hW8
  rw [hW8] at n0 fn gp8
  have HW9 := Lib.hid hW9
  have HW8 := Lib.hid hW8
  clear R10 K9 eA hW9 hW8
  go_wp2_with fail
  rw [← HW8.out, ← HW9.out]
  refine (thash_any gt inp (a + 1) W9 0 (by omega) hL HR10.out.2.2.1).mono ?_
  rintro e w10 ⟨x, a10, bad10, rfl, hx, T10, G10, ha1, ha2, hc⟩
  have RR := HR10.out.tape T10 G10
  have HC := Lib.hid hc
  clear hc T10 G10 bad9 gp9 n0 fn gp8
  obtain ⟨W11, hW11⟩ : ∃ y, y = putAt (w10.alloc (Obj.cells (c8 (z8 32)).toArray 24)) ⟨w10.heap.size, 0, none⟩ (c8 x) := ⟨_, rfl⟩
  have L11 : Bk W11 w10.heap.size 24 (c8 x) := by rw [hW11]; exact Bk.fresh w10 _ (by simp [hx])
  have B11 : Below w10.heap.size w10 W11 := by rw [hW11]; exact below_putAt ((Below.refl _ _).alloc (Nat.le_refl _) _) (Nat.le_refl _) _
  have R11 := RR.1.below B11
  have K11 := (HK10.out.trans RR.2).trans (RK.of_below gp gt _ B11)
  have hcan := fresh_can w10 24 (z8 32) 32 _ (by simp) rfl
  have gp11 := R11.1.at_ (i := 0) rfl
  have rl := L11.row32_ hx
  have HP12 := Lib.hid (RSt.putv hx R11 (by simp))
  have HK11 := Lib.hid K11
  clear RR R11 K11 B11 L11
  go_wp2_with fail
  rw [← hW11]
  clear hW11
  refine wp_quiet_tail 8 (by kernel_rfl) (by kernel_rfl) ?_
  simp only [List.take_succ_cons, List.take_zero, List.drop_succ_cons, List.drop_zero]
  repeat (go_big_quiet_step (fail))
  refine wpQuiet_nil ?_
  rintro w12 ⟨nq6, rfl⟩
  have ca13 := (HP12.out nq6).2.2
  go_wp2_with fail
  go_ret
  obtain ⟨R13, K13, _⟩ := HP12.out nq6
  have hk0 := HK0.out
  subst hk0
  have K14 := HK11.out.trans K13
  refine ⟨rfl, _, [_], a10, bad10, R13, K14, by omega, by omega, by simp, by simp, ?_⟩
  unfold res3
  rcases HC.out with ⟨_, b1, b2, b3, b4⟩ | ⟨_, b1, b2, b3⟩ | ⟨b1, _⟩
  · rw [if_neg (by omega)]
    subst b2 b3
    exact ⟨rfl, by rw [Nat.add_assoc], b4⟩
  · rw [if_pos (by omega)]
    exact b3
  · exact absurd rfl b1
set_option maxRecDepth 100000 in
set_option maxHeartbeats 4000000 in
theorem read_k1 (base gp gt : Nat) (v : Value) (nds : List NV) (inp : List UInt8) (a : Nat) (k : UInt8) (hk : inp[a]? = some k) (hL : inp.length ≤ 1000000) (way : Value) (w : World) (h : RSt w base gp gt v nds inp a 0) (hnl : nds.length < 100000)
    (hk0 : k = 1) (wayl : List Bool) (hw6 : wayl.length ≤ 256) (hwy : WY w gp gt v way wayl) :
    Calls Try.prog 18 #[.pointer (some ⟨gp, 0, none⟩), .pointer (some ⟨gt, 0, none⟩), way] w fun e w' => ReadPost w base gp gt v nds inp a (res1 inp a wayl) e w' := by
  have HWY := Lib.hid hwy
  obtain ⟨Aw, cw, rfl, hcw1, hcw2⟩ := ownsRow_form hwy.1
  clear hwy
  have q0 : (n8 k == 0) = false := by subst hk0; rfl
  have q1 : (n8 k == 1) = true := by subst hk0; rfl
  have HK0 := Lib.hid hk0
  clear hk0
  have HS := Lib.hid h
  obtain ⟨h1, h2, h3, h4, h5, h6, h7, h8⟩ := h
  obtain ⟨A, c, rfl, hc1, hc2⟩ := h2.form
  have p0 := h1.at_ (i := 0) rfl
  have zp := h1.lt
  have zt := h3.lt
  have H2 := Lib.hid h2
  clear h2
  have hal : a < inp.length := (List.getElem?_eq_some_iff.1 hk).1
  have hge : decide (inp.length ≤ a) = false := decide_eq_false (by omega)
  have HK := Lib.hid hk
  clear hk
  go_enter Try.func18, Try.ntmps18
  go_wp2_with (at_builtin; refine appN rfl _ _ rfl rfl H2.out nd0 nd0_ok rfl rfl (by omega) h7 ?_; intro gn c4 w4 hc4 hc5 hO4 hB4 hg4 ha4; have f4 := (h1.below hB4 h4).frozen 0; have p4 := (h1.below hB4 h4).at_ (i := 0) rfl; have HR := Lib.hid (HS.out.grow hnl hO4 hB4 hg4 ha4); clear hO4 hB4 hg4 ha4)
  obtain ⟨W5, hW5⟩ : ∃ y, y = w4.setCell ⟨gp, 0, none⟩ (.slice (some ⟨gn, 0, none⟩) (nds.length + 1) c4) := ⟨_, rfl⟩
  rw [← hW5] at HR ⊢
  obtain ⟨R5, K5⟩ := HR.out
  obtain ⟨tv, T5, Y5⟩ := R5.2.2.1
  obtain ⟨gi, oi, ct, rfl, ht1, ht2, _, hgi, hrow⟩ := Y5.row (by omega)
  have ei : W5.cell? ⟨gi, oi + a, none⟩ = some (.int .u8 (n8 k)) := by
    have h1 := (rowAt_some hrow).2 a (v8 k) (by simp only [c8, List.getElem?_map, HK.out, Option.map_some])
    rwa [addr_lit] at h1
  have c0 : W5.cell? ⟨gt, 0, none⟩ = some (.slice (some ⟨gi, oi, none⟩) inp.length ct) := T5.at_ rfl
  have c1 : W5.cell? ⟨gt, 1, none⟩ = some (.int .i64 (a : Int)) := T5.at_ rfl
  have c2 : W5.cell? ⟨gt, 2, none⟩ = some (.int .i64 0) := T5.at_ rfl
  have R6 := Lib.hid R5
  clear hW5 HR R5 f4 p4 p0 h1 h3 H2 HS T5 Y5 hrow
  go_quiet (fail)
  obtain ⟨W6, hW6⟩ : ∃ y, y = W5.drewN nq := ⟨_, rfl⟩
  rw [← hW6]
  have d0 : W6.cell? ⟨gt, 0, none⟩ = some (.slice (some ⟨gi, oi, none⟩) inp.length ct) := by rw [hW6]; exact c0
  have d1 : W6.cell? ⟨gt, 1, none⟩ = some (.int .i64 (a : Int)) := by rw [hW6]; exact c1
  have d2 : W6.cell? ⟨gt, 2, none⟩ = some (.int .i64 0) := by rw [hW6]; exact c2
  have di : W6.cell? ⟨gi, oi + a, none⟩ = some (.int .u8 (n8 k)) := by rw [hW6]; exact ei
  have R6' : RSt W6 base gp gt (.slice (some ⟨gn, 0, none⟩) (nds.length + 1) c4) (nds ++ [nd0]) inp a 0 := by rw [hW6]; exact R6.out.below (below_drewN (Below.refl _ _) _)
  have K6 : RK w W6 gp gt _ _ := K5.trans (by rw [hW6]; exact (RK.of_below gp gt _ (below_drewN (Below.refl _ _) nq)))
  clear hW6 c0 c1 c2 ei R6 K5
  go_wp2_with fail
  go_quiet (fail)
  rw [wrap64_n8]
  obtain ⟨W7, hW7⟩ : ∃ y, y = W6.drewN nq := ⟨_, rfl⟩
  rw [← hW7]
  have d0' : W7.cell? ⟨gt, 1, none⟩ = some (.int .i64 (a : Int)) := by rw [hW7]; exact d1
  have R7 : RSt W7 base gp gt (.slice (some ⟨gn, 0, none⟩) (nds.length + 1) c4) (nds ++ [nd0]) inp a 0 := by rw [hW7]; exact R6'.below (below_drewN (Below.refl _ _) _)
  have K7 : RK w W7 gp gt _ _ := K6.trans (by rw [hW7]; exact (RK.of_below gp gt _ (below_drewN (Below.refl _ _) nq)))
  clear hW7 d0 d1 d2 di R6' K6
  have t1 := R7.2.2.1.frozen
  have R8 := R7.tape (R7.2.2.1.setAt (a + 1)) (grown_setc _ _ _ _)
  have eL : nds.length + 1 = (nds ++ [nd0]).length := by simp
  have R8' := R8.1
  rw [show (Value.slice (some ⟨gn, 0, none⟩) (nds.length + 1) c4) = Value.slice (some ⟨gn, 0, none⟩) (nds ++ [nd0]).length c4 by rw [← eL]] at R8'
  obtain ⟨tl8, N8, hb8, _⟩ := R8'.nodes (by simp)
  have R9 := R8'.setc (i := nds.length) (x := nd0) (y := ndK (n8 k)) (by simp) nd0_ok (j := 0) (by omega) (NV.part_kind nd0 (n8 k))
  have eS : (nds ++ [nd0]).set nds.length (ndK (n8 k)) = nds ++ [ndK (n8 k)] := by simp
  rw [eS, ← eL] at R9
  have K9 := (K7.trans R8.2).trans R9.2
  have n0 := N8.kind (i := nds.length) (x := nd0) (by simp)
  have fn := N8.2.frozen (nds.length * 67)
  have gp8 := R8'.1.at_ (i := 0) rfl
  rw [← eL] at gp8
  clear R7 K7 R8 R8' N8 eL eS
  have eA : (((a + 1 : Nat) : Nat) : Int) = (a : Int) + 1 := by omega
  obtain ⟨W8, hW8⟩ : ∃ y, y = W7.setCell ⟨gt, 1, none⟩ (.int .i64 ((a + 1 : Nat) : Int)) := ⟨_, rfl⟩
  simp only [Nat.add_zero] at R9 K9
  obtain ⟨W9, hW9⟩ : ∃ y, y = W8.setCell ⟨gn, nds.length * 67, none⟩ (.int .i64 (n8 k)) := ⟨_, rfl⟩
  rw [← hW8] at R9 K9 n0 fn gp8
  rw [← hW9] at R9 K9
  have R10 := R9.1
  clear R9
  have gp9 := R10.1.at_ (i := 0) rfl
  have bad9 : W9.cell? ⟨gt, 2, none⟩ = some (.int .i64 0) := let ⟨_, t, _⟩ := R10.2.2.1; t.at_ rfl
  have HR10 := Lib.hid R10
  have HK10 := Lib.hid K9
  rw [eA] at hW8
  rw [hW8] at n0 fn gp8
  have HW9 := Lib.hid hW9
  have HW8 := Lib.hid hW8
  clear R10 K9 eA hW9 hW8
  go_wp2_with fail
  rw [← HW8.out, ← HW9.out]
  refine (thash_any gt inp (a + 1) W9 0 (by omega) hL HR10.out.2.2.1).mono ?_
  rintro e w10 ⟨kk, a10, bad10, rfl, hkk, T10, G10, ha1, ha2, hc⟩
  have RR := HR10.out.tape T10 G10
  have HC := Lib.hid hc
  clear hc T10 G10 bad9 gp9 n0 fn gp8
  obtain ⟨W11, hW11⟩ : ∃ y, y = putAt (w10.alloc (Obj.cells (c8 (z8 32)).toArray 24)) ⟨w10.heap.size, 0, none⟩ (c8 kk) := ⟨_, rfl⟩
  have L11 : Bk W11 w10.heap.size 24 (c8 kk) := by rw [hW11]; exact Bk.fresh w10 _ (by simp [hkk])
  have B11 : Below w10.heap.size w10 W11 := by rw [hW11]; exact below_putAt ((Below.refl _ _).alloc (Nat.le_refl _) _) (Nat.le_refl _) _
  have hz10 := (RSt.hi RR.1)
  have R11 := RR.1.below B11
  have K11 := (HK10.out.trans RR.2).trans (RK.of_below gp gt _ B11)
  have hcan := fresh_can w10 24 (z8 32) 32 _ (by simp) rfl
  have T11 := R11.2.2.1
  obtain ⟨g9, hg9⟩ : ∃ g, g = w10.heap.size := ⟨_, rfl⟩
  have HK11 := Lib.hid K11
  have HR11 := Lib.hid R11
  clear RR R11 K11 B11
  go_wp2_with fail
  rw [← hW11]
  refine (thash_any gt inp a10 W11 bad10 (by omega) hL T11).mono ?_
  rintro e w12 ⟨x, a12, bad12, rfl, hx, T12, G12, ha3, ha4, hc⟩
  have RR := HR11.out.tape T12 G12
  have HD := Lib.hid hc
  clear hc T11 T12 hW11
  rw [← hg9] at L11 hz10 ⊢
  have L12 := L11.grown G12 (fun e => by injection e with e; omega)
  clear hg9 L11 G12
  obtain ⟨W13, hW13⟩ : ∃ y, y = putAt (w12.alloc (Obj.cells (c8 (z8 32)).toArray 24)) ⟨w12.heap.size, 0, none⟩ (c8 x) := ⟨_, rfl⟩
  have M13 : Bk W13 w12.heap.size 24 (c8 x) := by rw [hW13]; exact Bk.fresh w12 _ (by simp [hx])
  have B13 : Below w12.heap.size w12 W13 := by rw [hW13]; exact below_putAt ((Below.refl _ _).alloc (Nat.le_refl _) _) (Nat.le_refl _) _
  have hz12 := (RSt.hi RR.1)
  have L13 := L12.below B13 L12.lt
  have R13 := RR.1.below B13
  have K13 := (HK11.out.trans RR.2).trans (RK.of_below gp gt _ B13)
  have hcan2 := fresh_can w12 24 (z8 32) 32 _ (by simp) rfl
  obtain ⟨g10, hg10⟩ : ∃ g, g = w12.heap.size := ⟨_, rfl⟩
  have gp13 := R13.1.at_ (i := 0) rfl
  have rl := L13.row32_ hkk
  have HP := Lib.hid (RSt.putk hkk R13)
  have HK13 := Lib.hid K13
  clear RR R13 K13 B13 L12 HR11 HK11
  go_wp2_with fail
  rw [← hW13]
  clear hW13
  refine wp_quiet_tail 8 (by kernel_rfl) (by kernel_rfl) ?_
  simp only [List.take_succ_cons, List.take_zero, List.drop_succ_cons, List.drop_zero]
  repeat (go_big_quiet_step (fail))
  refine wpQuiet_nil ?_
  rintro w14 ⟨nq6, rfl⟩
  obtain ⟨R14, K14, ca14, hgn⟩ := HP.out nq6
  have L14 := (L13.drewN nq6).putFar (p := ⟨gn, nds.length * 67 + 1, none⟩) (show g9 ≠ gn by omega) (c8 kk)
  rw [← hg10] at M13 hz12 ⊢
  clear hg10
  have M14 := (M13.drewN nq6).putFar (p := ⟨gn, nds.length * 67 + 1, none⟩) (show g10 ≠ gn by omega) (c8 kk)
  obtain ⟨W14, hW14⟩ : ∃ y, y = putAt (W13.drewN nq6) ⟨gn, nds.length * 67 + 1, none⟩ (c8 kk) := ⟨_, rfl⟩
  rw [← hW14] at R14 K14 L14 M14
  have HK14 := Lib.hid (HK13.out.trans K14)
  have gp14 := R14.1.at_ (i := 0) rfl
  have rm := M14.row32_ hx
  have HQ := Lib.hid (RSt.putv hx R14 hkk)
  clear R14 K14 HP HK13 rl gp13
  go_wp2_with fail
  rw [← hW14]
  clear hW14
  refine wp_quiet_tail 8 (by kernel_rfl) (by kernel_rfl) ?_
  simp only [List.take_succ_cons, List.take_zero, List.drop_succ_cons, List.drop_zero]
  repeat (go_big_quiet_step (fail))
  refine wpQuiet_nil ?_
  rintro w15 ⟨nq7, rfl⟩
  obtain ⟨R15, K15, ca15⟩ := HQ.out nq7
  have L15 := (L14.drewN nq7).putFar (p := ⟨gn, nds.length * 67 + 33, none⟩) (show g9 ≠ gn by omega) (c8 x)
  obtain ⟨W15, hW15⟩ : ∃ y, y = putAt (W14.drewN nq7) ⟨gn, nds.length * 67 + 33, none⟩ (c8 x) := ⟨_, rfl⟩
  rw [← hW15] at R15 K15 L15
  have K16 := HK14.out.trans K15
  have Y16 := HWY.out.rk K16
  clear K15 HK14 HQ gp14 rm L14 M14 L13 M13 ca14
  go_wp2_with fail
  rw [← hW15]
  clear hW15 ca15
  go_loopw [114] (fun t wr => ∃ i : Nat, i ≤ wayl.length ∧ t = .int .i64 (i : Int) ∧ Bk wr g9 24 (c8 kk) ∧ RSt wr base gp gt (.slice (some ⟨gn, 0, none⟩) (nds.length + 1) c4) (nds ++ [⟨n8 k, kk, x, -1, -1⟩]) inp a12 (badN bad12 (chkTo wayl kk i)) ∧ RK w wr gp gt (.slice A nds.length c) (.slice (some ⟨gn, 0, none⟩) (nds.length + 1) c4) ∧ WY wr gp gt (.slice (some ⟨gn, 0, none⟩) (nds.length + 1) c4) (.slice Aw wayl.length cw) wayl) (fun t _ => wayl.length - (intOf t).toNat)
  case atStart => exact ⟨0, by omega, rfl, L15, by simpa [badN, chkTo] using R15, K16, Y16⟩
  case round =>
    clear L15 R15 K16 Y16 HWY
    obtain ⟨i, hi, rfl, L, R, K, Y⟩ := hrel
    by_cases hlt : i < wayl.length
    · obtain ⟨b, hb⟩ : ∃ b, wayl[i]? = some b := ⟨_, List.getElem?_eq_getElem hlt⟩
      obtain ⟨gw, rfl, cw0⟩ := Y.cell hb
      have rl := L.row32_ hkk
      have HB := Lib.hid hb
      clear hb
      go_wp2_with fail
      refine (refbit_any kk i hkk (by omega) wr).mono ?_
      rintro e w16 ⟨rfl, b16⟩
      have R16 := R.below b16
      have L16 := L.below b16 L.lt
      have K16 := K.trans (RK.of_below gp gt _ b16)
      have Y16 := Y.rk (RK.of_below gp gt _ b16)
      go_wp2_with fail
      refine (form_any gt inp a12 w16 _ (bitInt (kbit kk i) != bitInt b) R16.2.2.1).mono ?_
      rintro e w17 ⟨rfl, T17, G17⟩
      rw [badN_step HB.out] at T17
      have RR := R16.tape T17 G17
      have L17 := L16.grown G17 (fun e => by injection e with e; omega)
      have K17 := K16.trans RR.2
      have Y17 := Y16.rk RR.2
      clear L R K Y R16 L16 K16 Y16 b16 T17 G17 rl cw0
      go_wp2_with fail
      go_roundw
      case rel => exact ⟨i + 1, by omega, by go_num, L17, RR.1, K17, Y17⟩
      case measure => simp [intOf]; omega
    · obtain rfl : i = wayl.length := by omega
      rw [chkTo_chk] at R
      go_wp2_with fail
      go_ret
      have hk0 := HK0.out
      subst hk0
      refine ⟨rfl, _, [_], a12, _, R, K, by omega, by omega, by simp, by simp, ?_⟩
      exact res1_fin HC.out HD.out
end Go.Proofs.Ytlegpkdighoflaa
