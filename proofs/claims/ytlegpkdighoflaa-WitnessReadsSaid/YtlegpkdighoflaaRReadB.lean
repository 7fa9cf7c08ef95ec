/- witanref10: Part.read at an inner node, and as a whole (printed by gen_rread.py). -/
import Derived.Test.YtlegpkdighoflaaRReadA
set_option linter.unusedVariables false
set_option linter.unusedSimpArgs false
namespace Go.Proofs.Ytlegpkdighoflaa
open Go Go.RowKit Sh
theorem infoI : (Try.prog.info? 3).map (fun i => (i.zero, i.size, i.bytes)) = some (some (.int .i64 0), 1, 8) := by kernel_rfl
section
variable {w : World} {base n : Nat} {v : Value} {xs : List Value} {ops : Array Oper} {rest : List Oper} {o : Oper} {a : Act} {Q : Exit → Act → World → Prop}
theorem appI (hgd : o.guard = none) (s x : Operand) (ho : o.op = .call { callee := .builtin .append, args := #[s, x], argTypes := #[86, 86] })
    (hs : a.eval s = v) (hown : w.ownsRow base 3 1 v n xs) (k : Int) {N : Nat} (hx : a.eval x = .slice (some ⟨N, 0, none⟩) 1 1) (hN : w.heap.size = N) (hsz : n ≤ 1099511627) (hb : base ≤ w.heap.size)
    (h : ∀ A c w', w'.ownsRow base 3 1 (.slice A (n + 1) c) (n + 1) (xs ++ [.int .i64 k]) → Below base w w' → wpList Try.prog ops Q rest (a.put o.dst (.slice A (n + 1) c)) w') : wpList Try.prog ops Q (o :: rest) a (w.alloc (.cells #[.int .i64 k] 3)) := by
  subst hN
  have hB := Bk.new w 3 [.int .i64 k]
  have hown' := ownsRow_below hown ((Below.refl _ _).alloc (Nat.le_refl _) (.cells #[.int .i64 k] 3)) (Nat.le_refl _)
  refine appR 86 (.int .i64 0) 8 Try.underlying86 infoI rfl (by decide) (by decide) hgd s x ho hs hown' (some ⟨w.heap.size, 0, none⟩) 1 1 hx [.int .i64 k] (by simp) 0 (w.heap.size + 1) (.inr ⟨w.heap.size, 0, rfl, Nat.zero_le _, by omega, fun j u hj => by rw [Nat.zero_add]; exact hB.at_ hj⟩) (by simp [Value.oneCell']) (by omega) (by simp; omega) ?_
  intro A c w' _ _ ho' hb' _ _
  exact h A c w' ho' (((Below.refl _ _).alloc hb _).trans hb')
end
theorem RSt.setlr {w : World} {base gp gt gn N c : Nat} {nds post : List NV} {inp : List UInt8} {a : Nat} {bad k : Int} (h : RSt w base gp gt (.slice (some ⟨gn, 0, none⟩) N c) (nds ++ ndK k :: post) inp a bad) (hN : N = (nds ++ ndK k :: post).length) (l r : Nat) :
    ∃ W1 W2, W1 = w.setCell ⟨gn, nds.length * 67 + 65, none⟩ (.int .i64 (l : Int)) ∧ W2 = W1.setCell ⟨gn, nds.length * 67 + 66, none⟩ (.int .i64 (r : Int)) ∧
    RSt W2 base gp gt (.slice (some ⟨gn, 0, none⟩) N c) (nds ++ ⟨k, z8 32, z8 32, l, r⟩ :: post) inp a bad ∧ RK w W2 gp gt (.slice (some ⟨gn, 0, none⟩) N c) (.slice (some ⟨gn, 0, none⟩) N c) ∧
    w.cell? ⟨gn, nds.length * 67 + 65, none⟩ = some (.int .i64 (-1)) ∧ w.frozen? ⟨gn, nds.length * 67 + 65, none⟩ = false ∧
    W1.cell? ⟨gn, nds.length * 67 + 66, none⟩ = some (.int .i64 (-1)) ∧ W1.frozen? ⟨gn, nds.length * 67 + 66, none⟩ = false ∧
    W1.cell? ⟨gp, 0, none⟩ = some (.slice (some ⟨gn, 0, none⟩) N c) ∧ W2.cell? ⟨gp, 0, none⟩ = some (.slice (some ⟨gn, 0, none⟩) N c) := by
  subst hN
  have hok : (ndK k).Ok := ⟨by simp [ndK], by simp [ndK]⟩
  have hok1 : (⟨k, z8 32, z8 32, l, -1⟩ : NV).Ok := ⟨by simp, by simp⟩
  have hok2 : (⟨k, z8 32, z8 32, l, r⟩ : NV).Ok := ⟨by simp, by simp⟩
  have hx : (nds ++ ndK k :: post)[nds.length]? = some (ndK k) := by simp
  obtain ⟨tl, hn, _, _⟩ := h.nodes (by simp only [List.length_append, List.length_cons]; omega)
  have h1 := h.setc hx hok1 (j := 65) (u := .int .i64 (l : Int)) (by omega) (NV.part_left hok (l : Int))
  have e1 : (nds ++ ndK k :: post).set nds.length ⟨k, z8 32, z8 32, l, -1⟩ = nds ++ ⟨k, z8 32, z8 32, l, -1⟩ :: post := by simp
  have el : (nds ++ ndK k :: post).length = (nds ++ (⟨k, z8 32, z8 32, l, -1⟩ : NV) :: post).length := by simp
  rw [e1] at h1
  have c1 := hn.left hx
  have f1 := hn.2.frozen (nds.length * 67 + 65)
  rw [el] at h1 ⊢
  have hx1 : (nds ++ (⟨k, z8 32, z8 32, l, -1⟩ : NV) :: post)[nds.length]? = some ⟨k, z8 32, z8 32, l, -1⟩ := by simp
  obtain ⟨tl1, hn1, _, _⟩ := h1.1.nodes (by simp only [List.length_append, List.length_cons]; omega)
  have h2 := h1.1.setc hx1 hok2 (j := 66) (u := .int .i64 (r : Int)) (by omega) (NV.part_right hok1 (r : Int))
  have e2 : (nds ++ (⟨k, z8 32, z8 32, l, -1⟩ : NV) :: post).set nds.length ⟨k, z8 32, z8 32, l, r⟩ = nds ++ ⟨k, z8 32, z8 32, l, r⟩ :: post := by simp
  rw [e2] at h2
  exact ⟨_, _, rfl, rfl, h2.1, h1.2.trans h2.2, c1, f1, hn1.right hx1, hn1.2.frozen _, h1.1.1.at_ rfl, h2.1.1.at_ rfl⟩
theorem RSt.kind {w : World} {base gp gt gn N c : Nat} {nds : List NV} {inp : List UInt8} {a : Nat} {bad : Int} (h : RSt w base gp gt (.slice (some ⟨gn, 0, none⟩) N c) nds inp a bad) (hN : N = nds.length) {i : Nat} {y : NV} (hy : nds[i]? = some y) : w.cell? ⟨gn, i * 67, none⟩ = some (.int .i64 y.kind) := by
  subst hN
  have := (List.getElem?_eq_some_iff.1 hy).1
  obtain ⟨tl, hn, _, _⟩ := h.nodes (by omega)
  exact hn.kind hy
theorem wayV_one (way : List Bool) : ∀ u ∈ wayV way, u.oneCell' = true := by
  intro u hu
  unfold wayV at hu
  obtain ⟨x, _, hx⟩ := List.mem_map.1 hu
  rw [← hx]
  rfl
theorem wayV_snoc (way : List Bool) (b : Bool) : wayV (way ++ [b]) = wayV way ++ [.int .i64 (bitInt b)] := by simp [wayV]
theorem WY.next {w w0 : World} {base gp gt gn c c' N : Nat} {A : Option Addr} {nds : List NV} {inp : List UInt8} {a : Nat} {bad : Int} {way : List Bool} {b : Bool} {k : Int} (hk : bitInt b = k) (R : RSt w0 base gp gt (.slice (some ⟨gn, 0, none⟩) N c') nds inp a bad) (hO : w.ownsRow w0.heap.size 3 1 (.slice A (way.length + 1) c) (way.length + 1) (wayV way ++ [.int .i64 k])) : WY w gp gt (.slice (some ⟨gn, 0, none⟩) N c') (.slice A (way.length + 1) c) (way ++ [b]) := by
  have z := R.hi
  refine ⟨by rw [wayV_snoc, hk, List.length_append]; exact ownsRow_less hO (Nat.zero_le _), fun g hg => ?_⟩
  have hl := (hO.lt g hg).1
  refine ⟨by omega, by omega, fun e => ?_⟩
  have : gn = g := by simpa [Value.ownBlock] using e
  omega
theorem k3 (x : Int) : ((x == 0) = true ∧ (x == 1) = false) ∨ ((x == 0) = false ∧ (x == 1) = true) ∨ ((x == 0) = false ∧ (x == 1) = false) := by
  by_cases h0 : x = 0
  · subst h0; exact .inl ⟨rfl, rfl⟩
  · by_cases h1 : x = 1
    · subst h1; exact .inr (.inl ⟨rfl, rfl⟩)
    · exact .inr (.inr ⟨beq_eq_false_iff_ne.2 h0, beq_eq_false_iff_ne.2 h1⟩)
def illK (a b : Int) : Bool := (a == 0 && b == 0) || (a == 0 && b == 1) || (a == 1 && b == 0)
theorem illK_ill : ∀ (l r : Pt), ill l r = illK l.kind r.kind
  | .e, .e => rfl
  | .e, .lf _ _ => rfl
  | .e, .nd _ _ => rfl
  | .e, .hd _ => rfl
  | .lf _ _, .e => rfl
  | .lf _ _, .lf _ _ => rfl
  | .lf _ _, .nd _ _ => rfl
  | .lf _ _, .hd _ => rfl
  | .nd _ _, .e => rfl
  | .nd _ _, .lf _ _ => rfl
  | .nd _ _, .nd _ _ => rfl
  | .nd _ _, .hd _ => rfl
  | .hd _, .e => rfl
  | .hd _, .lf _ _ => rfl
  | .hd _, .nd _ _ => rfl
  | .hd _, .hd _ => rfl
set_option maxRecDepth 100000 in
set_option maxHeartbeats 4000000 in
theorem read_k2z (base gp gt : Nat) (v : Value) (nds : List NV) (inp : List UInt8) (a : Nat) (k : UInt8) (hk : inp[a]? = some k) (hL : inp.length ≤ 1000000) (way : Value) (w : World) (h : RSt w base gp gt v nds inp a 0) (hnl : nds.length < 100000)
    (hk0 : k = 2) (wayl : List Bool) (hw6 : wayl.length = 256) (hwy : WY w gp gt v way wayl) :
    Calls Try.prog 18 #[.pointer (some ⟨gp, 0, none⟩), .pointer (some ⟨gt, 0, none⟩), way] w fun e w' => ReadPost w base gp gt v nds inp a (.error 13) e w' := by
  have HWY := Lib.hid hwy
  obtain ⟨Aw, cw, rfl, hcw1, hcw2⟩ := ownsRow_form hwy.1
  clear hwy
  have hg6 : decide (256 ≤ (wayl.length : Int)) = true := decide_eq_true (by omega)
  have HW6 := Lib.hid hw6
  clear hw6
  have q0 : (n8 k == 0) = false := by subst hk0; rfl
  have q1 : (n8 k == 1) = false := by subst hk0; rfl
  have q2 : (n8 k == 2) = true := by subst hk0; rfl
  have HK0 := Lib.hid hk0
  clear hk0
  have HS := Lib.hid h
  obtain ⟨h1, h2, h3, h4, h5, h6, h7, h8⟩ := h
  obtain ⟨A, c, rfl, hc1, hc2⟩ := h2.form
  have p0 := h1.at_ (i := 0) rfl
  have zp := h1.lt
  have zt := h3.lt
  have H2 := Lib.hid h2
  clear h2
  have hal : a < inp.length := (List.getElem?_eq_some_iff.1 hk).1
  have hge : decide (inp.length ≤ a) = false := decide_eq_false (by omega)
  have HK := Lib.hid hk
  clear hk
  go_enter Try.func18, Try.ntmps18
  go_wp2_with (at_builtin; refine appN rfl _ _ rfl rfl H2.out nd0 nd0_ok rfl rfl (by omega) h7 ?_; intro gn c4 w4 hc4 hc5 hO4 hB4 hg4 ha4; have f4 := (h1.below hB4 h4).frozen 0; have p4 := (h1.below hB4 h4).at_ (i := 0) rfl; have HR := Lib.hid (HS.out.grow hnl hO4 hB4 hg4 ha4); clear hO4 hB4 hg4 ha4)
  obtain ⟨W5, hW5⟩ : ∃ y, y = w4.setCell ⟨gp, 0, none⟩ (.slice (some ⟨gn, 0, none⟩) (nds.length + 1) c4) := ⟨_, rfl⟩
  rw [← hW5] at HR ⊢
  obtain ⟨R5, K5⟩ := HR.out
  obtain ⟨tv, T5, Y5⟩ := R5.2.2.1
  obtain ⟨gi, oi, ct, rfl, ht1, ht2, _, hgi, hrow⟩ := Y5.row (by omega)
  have ei : W5.cell? ⟨gi, oi + a, none⟩ = some (.int .u8 (n8 k)) := by
    have h1 := (rowAt_some hrow).2 a (v8 k) (by simp only [c8, List.getElem?_map, HK.out, Option.map_some])
    rwa [addr_lit] at h1
  have c0 : W5.cell? ⟨gt, 0, none⟩ = some (.slice (some ⟨gi, oi, none⟩) inp.length ct) := T5.at_ rfl
  have c1 : W5.cell? ⟨gt, 1, none⟩ = some (.int .i64 (a : Int)) := T5.at_ rfl
  have c2 : W5.cell? ⟨gt, 2, none⟩ = some (.int .i64 0) := T5.at_ rfl
  have R6 := Lib.hid R5
  clear hW5 HR R5 f4 p4 p0 h1 h3 H2 HS T5 Y5 hrow
  go_quiet (fail)
  obtain ⟨W6, hW6⟩ : ∃ y, y = W5.drewN nq := ⟨_, rfl⟩
  rw [← hW6]
  have d0 : W6.cell? ⟨gt, 0, none⟩ = some (.slice (some ⟨gi, oi, none⟩) inp.length ct) := by rw [hW6]; exact c0
  have d1 : W6.cell? ⟨gt, 1, none⟩ = some (.int .i64 (a : Int)) := by rw [hW6]; exact c1
  have d2 : W6.cell? ⟨gt, 2, none⟩ = some (.int .i64 0) := by rw [hW6]; exact c2
  have di : W6.cell? ⟨gi, oi + a, none⟩ = some (.int .u8 (n8 k)) := by rw [hW6]; exact ei
  have R6' : RSt W6 base gp gt (.slice (some ⟨gn, 0, none⟩) (nds.length + 1) c4) (nds ++ [nd0]) inp a 0 := by rw [hW6]; exact R6.out.below (below_drewN (Below.refl _ _) _)
  have K6 : RK w W6 gp gt _ _ := K5.trans (by rw [hW6]; exact (RK.of_below gp gt _ (below_drewN (Below.refl _ _) nq)))
  clear hW6 c0 c1 c2 ei R6 K5
  go_wp2_with fail
  go_quiet (fail)
  rw [wrap64_n8]
  obtain ⟨W7, hW7⟩ : ∃ y, y = W6.drewN nq := ⟨_, rfl⟩
  rw [← hW7]
  have d0' : W7.cell? ⟨gt, 1, none⟩ = some (.int .i64 (a : Int)) := by rw [hW7]; exact d1
  have R7 : RSt W7 base gp gt (.slice (some ⟨gn, 0, none⟩) (nds.length + 1) c4) (nds ++ [nd0]) inp a 0 := by rw [hW7]; exact R6'.below (below_drewN (Below.refl _ _) _)
  have K7 : RK w W7 gp gt _ _ := K6.trans (by rw [hW7]; exact (RK.of_below gp gt _ (below_drewN (Below.refl _ _) nq)))
  clear hW7 d0 d1 d2 di R6' K6
  have t1 := R7.2.2.1.frozen
  have R8 := R7.tape (R7.2.2.1.setAt (a + 1)) (grown_setc _ _ _ _)
  have eL : nds.length + 1 = (nds ++ [nd0]).length := by simp
  have R8' := R8.1
  rw [show (Value.slice (some ⟨gn, 0, none⟩) (nds.length + 1) c4) = Value.slice (some ⟨gn, 0, none⟩) (nds ++ [nd0]).length c4 by rw [← eL]] at R8'
  obtain ⟨tl8, N8, hb8, _⟩ := R8'.nodes (by simp)
  have R9 := R8'.setc (i := nds.length) (x := nd0) (y := ndK (n8 k)) (by simp) nd0_ok (j := 0) (by omega) (NV.part_kind nd0 (n8 k))
  have eS : (nds ++ [nd0]).set nds.length (ndK (n8 k)) = nds ++ [ndK (n8 k)] := by simp
  rw [eS, ← eL] at R9
  have K9 := (K7.trans R8.2).trans R9.2
  have n0 := N8.kind (i := nds.length) (x := nd0) (by simp)
  have fn := N8.2.frozen (nds.length * 67)
  have gp8 := R8'.1.at_ (i := 0) rfl
  rw [← eL] at gp8
  clear R7 K7 R8 R8' N8 eL eS
  have eA : (((a + 1 : Nat) : Nat) : Int) = (a : Int) + 1 := by omega
  obtain ⟨W8, hW8⟩ : ∃ y, y = W7.setCell ⟨gt, 1, none⟩ (.int .i64 ((a + 1 : Nat) : Int)) := ⟨_, rfl⟩
  simp only [Nat.add_zero] at R9 K9
  obtain ⟨W9, hW9⟩ : ∃ y, y = W8.setCell ⟨gn, nds.length * 67, none⟩ (.int .i64 (n8 k)) := ⟨_, rfl⟩
  rw [← hW8] at R9 K9 n0 fn gp8
  rw [← hW9] at R9 K9
  have R10 := R9.1
  clear R9
  have gp9 := R10.1.at_ (i := 0) rfl
  have bad9 : W9.cell? ⟨gt, 2, none⟩ = some (.int .i64 0) := let ⟨_, t, _⟩ := R10.2.2.1; t.at_ rfl
  have HR10 := Lib.hid R10
  have HK10 := Lib.hid K9
  rw [eA] at hW8
  rw [hW8] at n0 fn gp8
  have HW9 := Lib.hid hW9
  have HW8 := Lib.hid hW8
  clear R10 K9 eA hW9 hW8
  go_wp2_with fail
  rw [← HW8.out, ← HW9.out]
  refine (form_any gt inp (a + 1) W9 0 true HR10.out.2.2.1).mono ?_
  rintro e w10 ⟨rfl, T10, G10⟩
  have RR := HR10.out.tape T10 G10
  have c10 : w10.cell? ⟨gt, 2, none⟩ = some (.int .i64 13) := let ⟨_, t, _⟩ := RR.1.2.2.1; t.at_ rfl
  go_wp2_with fail
  go_ret
  exact ⟨rfl, _, [_], a + 1, _, RR.1, HK10.out.trans RR.2, by omega, by omega, by simp, by simp, rfl⟩
def RdOk (r : Except Nat (Pt × List UInt8)) (n : Nat) (inp : List UInt8) (ext : List NV) (a' : Nat) (bad' : Int) : Prop := match r with | .ok x => ext = x.1.lay n ∧ x.2 = inp.drop a' ∧ bad' = 0 | .error m => bad' = (m : Int)
def ChildPost (w : World) (base gp gt : Nat) (v : Value) (nds : List NV) (n : Nat) (inp : List UInt8) (a : Nat) (bad : Int) (r : Except Nat (Pt × List UInt8)) (e : Ending) (w' : World) : Prop :=
  e = .returned (.int .i64 (n : Int)) ∧ ∃ gn N c y ext a' bad', N = (nds ++ (y :: ext)).length ∧ RSt w' base gp gt (.slice (some ⟨gn, 0, none⟩) N c) (nds ++ (y :: ext)) inp a' bad' ∧ RK w w' gp gt v (.slice (some ⟨gn, 0, none⟩) N c) ∧ a ≤ a' ∧ a' ≤ inp.length ∧ ext.length ≤ 2 * (a' - a) ∧
    ((bad = 0 ∧ RdOk r n inp (y :: ext) a' bad') ∨ (bad ≠ 0 ∧ bad' = bad))
def ReadIH (base gp gt f : Nat) (inp : List UInt8) : Prop := ∀ (wayl : List Bool) (v wv : Value) (nds : List NV) (a : Nat) (w : World), f + wayl.length = 256 → a ≤ inp.length → nds.length + 1 + 2 * (inp.length - a) ≤ 100000 → RSt w base gp gt v nds inp a 0 → WY w gp gt v wv wayl →
    Calls Try.prog 18 #[.pointer (some ⟨gp, 0, none⟩), .pointer (some ⟨gt, 0, none⟩), wv] w fun e w' => ReadPost w base gp gt v nds inp a (rd f wayl (inp.drop a)) e w'
theorem read_child {base gp gt f : Nat} {inp : List UInt8} (IH : ReadIH base gp gt f inp) (wayl : List Bool) (v wv : Value) (nds : List NV) (n : Nat) (hn : nds.length = n) (a : Nat) (bad : Int) (w : World) (hf : f + wayl.length = 256) (ha : a ≤ inp.length) (hb : nds.length + 1 + 2 * (inp.length - a) ≤ 100000) (h : RSt w base gp gt v nds inp a bad) (hw : WY w gp gt v wv wayl) :
    Calls Try.prog 18 #[.pointer (some ⟨gp, 0, none⟩), .pointer (some ⟨gt, 0, none⟩), wv] w (ChildPost w base gp gt v nds n inp a bad (rd f wayl (inp.drop a))) := by
  subst hn
  by_cases h0 : bad = 0
  · subst h0
    refine (IH wayl v wv nds a w hf ha hb h hw).mono ?_
    rintro e w' ⟨rfl, v', ext, a', bad', R, K, h1, h2, h3, h4, h5⟩
    refine ⟨rfl, ?_⟩
    cases ext with
    | nil => cases h3
    | cons y ext =>
      obtain ⟨gn, c, rfl, _⟩ := R.2.1.some (by simp only [List.length_append, List.length_cons]; omega)
      exact ⟨gn, _, c, y, ext, a', bad', rfl, R, K, h1, h2, by simp only [List.length_cons] at h4; omega, .inl ⟨rfl, h5⟩⟩
  · refine (read_bad base gp gt v nds inp a bad h0 wv w h (by omega)).mono ?_
    rintro e w' ⟨rfl, v', R, K⟩
    refine ⟨rfl, ?_⟩
    obtain ⟨gn, c, rfl, _⟩ := R.2.1.some (by simp)
    exact ⟨gn, _, c, nd0, [], a, bad, rfl, R, K, Nat.le_refl _, ha, by simp, .inr ⟨h0, rfl⟩⟩
theorem lay_kind {y : NV} {ext : List NV} {n : Nat} : ∀ {p : Pt}, y :: ext = p.lay n → y.kind = p.kind
  | .e, h => by simp [Pt.lay] at h; rw [h.1]; rfl
  | .lf _ _, h => by simp [Pt.lay] at h; rw [h.1]; rfl
  | .nd _ _, h => by simp [Pt.lay] at h; rw [h.1]; rfl
  | .hd _, h => by simp [Pt.lay] at h; rw [h.1]; rfl
/-- What an inner node comes to. -/
theorem inner_fin {inp : List UInt8} {a a1 a2 f n : Nat} {bad1 bad2 : Int} {wayl : List Bool} {y1 y2 : NV} {e1 e2 : List NV} (hk : inp[a]? = some 2) (hf : f + 1 + wayl.length = 256)
    (h1 : RdOk (rd f (wayl ++ [false]) (inp.drop (a + 1))) (n + 1) inp (y1 :: e1) a1 bad1)
    (h2 : (bad1 = 0 ∧ RdOk (rd f (wayl ++ [true]) (inp.drop a1)) (n + 1 + (y1 :: e1).length) inp (y2 :: e2) a2 bad2) ∨ (bad1 ≠ 0 ∧ bad2 = bad1)) :
    match rd (f + 1) wayl (inp.drop a) with | .ok x => (⟨2, z8 32, z8 32, ((n + 1 : Nat) : Int), ((n + 1 + (y1 :: e1).length : Nat) : Int)⟩ : NV) :: (y1 :: e1 ++ y2 :: e2) = x.1.lay n ∧ x.2 = inp.drop a2 ∧ badF (illK y1.kind y2.kind) bad2 = 0 | .error m => badF (illK y1.kind y2.kind) bad2 = (m : Int) := by
  unfold RdOk at h1 h2
  have hd : inp.drop a = 2 :: inp.drop (a + 1) := by
    have hl := (List.getElem?_eq_some_iff.1 hk).1
    rw [List.drop_eq_getElem_cons hl]
    congr 1
    exact (List.getElem?_eq_some_iff.1 hk).2
  have hres : rd (f + 1) wayl (2 :: inp.drop (a + 1)) = match rd f (wayl ++ [false]) (inp.drop (a + 1)) with
          | .error e => .error e
          | .ok (l, b1) => match rd f (wayl ++ [true]) b1 with
            | .error e => .error e
            | .ok (r, b2) => if ill l r then .error 13 else .ok (.nd l r, b2) := rfl
  have nz : ∀ {c : Bool} {x : Int}, x ≠ 0 → badF c x = x := fun {c x} h => by
    have : (x == 0) = false := beq_eq_false_iff_ne.2 h
    simp [badF, this]
  rw [hd, hres]
  cases r1 : rd f (wayl ++ [false]) (inp.drop (a + 1)) with
  | error m =>
    rw [r1] at h1
    have hm : (m : Int) ≠ 0 := by rcases rd_short r1 with rfl | rfl <;> decide
    simp only at h1
    subst h1
    rcases h2 with ⟨e, _⟩ | ⟨_, e⟩
    · exact absurd e hm
    · subst e; exact nz hm
  | ok x =>
    obtain ⟨p, b1⟩ := x
    rw [r1] at h1
    obtain ⟨l1, rfl, rfl⟩ := h1
    rcases h2 with ⟨_, h2⟩ | ⟨e, _⟩
    · dsimp only
      cases r2 : rd f (wayl ++ [true]) (inp.drop a1) with
      | error m =>
        rw [r2] at h2
        have hm : (m : Int) ≠ 0 := by rcases rd_short r2 with rfl | rfl <;> decide
        simp only at h2
        subst h2
        exact nz hm
      | ok x =>
        obtain ⟨q, b2⟩ := x
        rw [r2] at h2
        obtain ⟨l2, rfl, rfl⟩ := h2
        dsimp only
        have hc : (y1 :: e1).length = p.cnt := by rw [l1, Pt.lay_length]
        rw [illK_ill, ← lay_kind l1, ← lay_kind l2]
        cases hi : illK y1.kind y2.kind with
        | true => rfl
        | false =>
          refine ⟨?_, rfl, rfl⟩
          show _ = Pt.lay n (.nd p q)
          rw [Pt.lay, ← l1, ← hc, ← l2]
    · exact absurd rfl e
theorem k2_fin {w w22 : World} {base gp gt gn3 N3 c3 : Nat} {v : Value} {nds : List NV} {inp : List UInt8} {a a1 a2 f n1 N2 : Nat} {bad1 bad2 : Int} {wayl : List Bool} {y1 y2 : NV} {e1 e2 : List NV} {cc : Bool} {k : UInt8} (hk0 : k = 2) (hk : inp[a]? = some k) (hf : f + 1 + wayl.length = 256) (hn1 : n1 = nds.length + 1) (hN2 : N2 = n1 + (y1 :: e1).length)
    (h1 : RdOk (rd f (wayl ++ [false]) (inp.drop (a + 1))) n1 inp (y1 :: e1) a1 bad1) (h2 : (bad1 = 0 ∧ RdOk (rd f (wayl ++ [true]) (inp.drop a1)) N2 inp (y2 :: e2) a2 bad2) ∨ (bad1 ≠ 0 ∧ bad2 = bad1))
    (R : RSt w22 base gp gt (.slice (some ⟨gn3, 0, none⟩) N3 c3) (nds ++ ⟨n8 k, z8 32, z8 32, (n1 : Int), (N2 : Int)⟩ :: (y1 :: e1 ++ y2 :: e2)) inp a2 (badF cc bad2)) (K : RK w w22 gp gt v (.slice (some ⟨gn3, 0, none⟩) N3 c3))
    (hp1 : a + 1 ≤ a1) (hp3 : e1.length ≤ 2 * (a1 - (a + 1))) (hp4 : a1 ≤ a2) (hp5 : a2 ≤ inp.length) (hp6 : e2.length ≤ 2 * (a2 - a1)) (hcc : illK y1.kind y2.kind = cc) : ReadPost w base gp gt v nds inp a (rd (f + 1) wayl (inp.drop a)) (.returned (.int .i64 (nds.length : Int))) w22 := by
  have e8 : n8 k = 2 := by subst hk0; rfl
  subst hk0 hN2 hn1 hcc
  rw [e8] at R
  exact ⟨rfl, _, _, a2, _, R, K, by omega, hp5, by simp, by simp only [List.length_cons, List.length_append]; omega, inner_fin hk hf h1 h2⟩
set_option maxRecDepth 100000 in
set_option maxHeartbeats 4000000 in
theorem read_k2 (base gp gt : Nat) (v : Value) (nds : List NV) (inp : List UInt8) (a : Nat) (k : UInt8) (hk : inp[a]? = some k) (hL : inp.length ≤ 1000000) (way : Value) (w : World) (h : RSt w base gp gt v nds inp a 0) (hnl : nds.length < 100000)
    (hk0 : k = 2) (wayl : List Bool) (f : Nat) (hw6 : f + 1 + wayl.length = 256) (hwy : WY w gp gt v way wayl) (hnb : nds.length + 1 + 2 * (inp.length - a) ≤ 100000) (IH : ReadIH base gp gt f inp) :
    Calls Try.prog 18 #[.pointer (some ⟨gp, 0, none⟩), .pointer (some ⟨gt, 0, none⟩), way] w fun e w' => ReadPost w base gp gt v nds inp a (rd (f + 1) wayl (inp.drop a)) e w' := by
  have HWY := Lib.hid hwy
  have HIH := Lib.hid IH
  obtain ⟨Aw, cw, rfl, hcw1, hcw2⟩ := ownsRow_form hwy.1
  clear hwy IH
  have hg6 : decide (256 ≤ (wayl.length : Int)) = false := decide_eq_false (by omega)
  have hwl : wayl.length < 256 := by omega
  have HW6 := Lib.hid hw6
  clear hw6
  have q0 : (n8 k == 0) = false := by subst hk0; rfl
  have q1 : (n8 k == 1) = false := by subst hk0; rfl
  have q2 : (n8 k == 2) = true := by subst hk0; rfl
  have HK0 := Lib.hid hk0
  clear hk0
  have HS := Lib.hid h
  obtain ⟨h1, h2, h3, h4, h5, h6, h7, h8⟩ := h
  obtain ⟨A, c, rfl, hc1, hc2⟩ := h2.form
  have p0 := h1.at_ (i := 0) rfl
  have zp := h1.lt
  have zt := h3.lt
  have H2 := Lib.hid h2
  clear h2
  have hal : a < inp.length := (List.getElem?_eq_some_iff.1 hk).1
  have hge : decide (inp.length ≤ a) = false := decide_eq_false (by omega)
  have HK := Lib.hid hk
  clear hk
  go_enter Try.func18, Try.ntmps18
  go_wp2_with (at_builtin; refine appN rfl _ _ rfl rfl H2.out nd0 nd0_ok rfl rfl (by omega) h7 ?_; intro gn c4 w4 hc4 hc5 hO4 hB4 hg4 ha4; have f4 := (h1.below hB4 h4).frozen 0; have p4 := (h1.below hB4 h4).at_ (i := 0) rfl; have HR := Lib.hid (HS.out.grow hnl hO4 hB4 hg4 ha4); clear hO4 hB4 hg4 ha4)
  obtain ⟨W5, hW5⟩ : ∃ y, y = w4.setCell ⟨gp, 0, none⟩ (.slice (some ⟨gn, 0, none⟩) (nds.length + 1) c4) := ⟨_, rfl⟩
  rw [← hW5] at HR ⊢
  obtain ⟨R5, K5⟩ := HR.out
  obtain ⟨tv, T5, Y5⟩ := R5.2.2.1
  obtain ⟨gi, oi, ct, rfl, ht1, ht2, _, hgi, hrow⟩ := Y5.row (by omega)
  have ei : W5.cell? ⟨gi, oi + a, none⟩ = some (.int .u8 (n8 k)) := by
    have h1 := (rowAt_some hrow).2 a (v8 k) (by simp only [c8, List.getElem?_map, HK.out, Option.map_some])
    rwa [addr_lit] at h1
  have c0 : W5.cell? ⟨gt, 0, none⟩ = some (.slice (some ⟨gi, oi, none⟩) inp.length ct) := T5.at_ rfl
  have c1 : W5.cell? ⟨gt, 1, none⟩ = some (.int .i64 (a : Int)) := T5.at_ rfl
  have c2 : W5.cell? ⟨gt, 2, none⟩ = some (.int .i64 0) := T5.at_ rfl
  have R6 := Lib.hid R5
  clear hW5 HR R5 f4 p4 p0 h1 h3 H2 HS T5 Y5 hrow
  go_quiet (fail)
  obtain ⟨W6, hW6⟩ : ∃ y, y = W5.drewN nq := ⟨_, rfl⟩
  rw [← hW6]
  have d0 : W6.cell? ⟨gt, 0, none⟩ = some (.slice (some ⟨gi, oi, none⟩) inp.length ct) := by rw [hW6]; exact c0
  have d1 : W6.cell? ⟨gt, 1, none⟩ = some (.int .i64 (a : Int)) := by rw [hW6]; exact c1
  have d2 : W6.cell? ⟨gt, 2, none⟩ = some (.int .i64 0) := by rw [hW6]; exact c2
  have di : W6.cell? ⟨gi, oi + a, none⟩ = some (.int .u8 (n8 k)) := by rw [hW6]; exact ei
  have R6' : RSt W6 base gp gt (.slice (some ⟨gn, 0, none⟩) (nds.length + 1) c4) (nds ++ [nd0]) inp a 0 := by rw [hW6]; exact R6.out.below (below_drewN (Below.refl _ _) _)
  have K6 : RK w W6 gp gt _ _ := K5.trans (by rw [hW6]; exact (RK.of_below gp gt _ (below_drewN (Below.refl _ _) nq)))
  clear hW6 c0 c1 c2 ei R6 K5
  go_wp2_with fail
  go_quiet (fail)
  rw [wrap64_n8]
  obtain ⟨W7, hW7⟩ : ∃ y, y = W6.drewN nq := ⟨_, rfl⟩
  rw [← hW7]
  have d0' : W7.cell? ⟨gt, 1, none⟩ = some (.int .i64 (a : Int)) := by rw [hW7]; exact d1
  have R7 : RSt W7 base gp gt (.slice (some ⟨gn, 0, none⟩) (nds.length + 1) c4) (nds ++ [nd0]) inp a 0 := by rw [hW7]; exact R6'.below (below_drewN (Below.refl _ _) _)
  have K7 : RK w W7 gp gt _ _ := K6.trans (by rw [hW7]; exact (RK.of_below gp gt _ (below_drewN (Below.refl _ _) nq)))
  clear hW7 d0 d1 d2 di R6' K6
  have t1 := R7.2.2.1.frozen
  have R8 := R7.tape (R7.2.2.1.setAt (a + 1)) (grown_setc _ _ _ _)
  have eL : nds.length + 1 = (nds ++ [nd0]).length := by simp
  have R8' := R8.1
  rw [show (Value.slice (some ⟨gn, 0, none⟩) (nds.length + 1) c4) = Value.slice (some ⟨gn, 0, none⟩) (nds ++ [nd0]).length c4 by rw [← eL]] at R8'
  obtain ⟨tl8, N8, hb8, _⟩ := R8'.nodes (by simp)
  have R9 := R8'.setc (i := nds.length) (x := nd0) (y := ndK (n8 k)) (by simp) nd0_ok (j := 0) (by omega) (NV.part_kind nd0 (n8 k))
  have eS : (nds ++ [nd0]).set nds.length (ndK (n8 k)) = nds ++ [ndK (n8 k)] := by simp
  rw [eS, ← eL] at R9
  have K9 := (K7.trans R8.2).trans R9.2
  have n0 := N8.kind (i := nds.length) (x := nd0) (by simp)
  have fn := N8.2.frozen (nds.length * 67)
  have gp8 := R8'.1.at_ (i := 0) rfl
  rw [← eL] at gp8
  clear R7 K7 R8 R8' N8 eL eS
  have eA : (((a + 1 : Nat) : Nat) : Int) = (a : Int) + 1 := by omega
  obtain ⟨W8, hW8⟩ : ∃ y, y = W7.setCell ⟨gt, 1, none⟩ (.int .i64 ((a + 1 : Nat) : Int)) := ⟨_, rfl⟩
  simp only [Nat.add_zero] at R9 K9
  obtain ⟨W9, hW9⟩ : ∃ y, y = W8.setCell ⟨gn, nds.length * 67, none⟩ (.int .i64 (n8 k)) := ⟨_, rfl⟩
  rw [← hW8] at R9 K9 n0 fn gp8
  rw [← hW9] at R9 K9
  have R10 := R9.1
  clear R9
  have gp9 := R10.1.at_ (i := 0) rfl
  have bad9 : W9.cell? ⟨gt, 2, none⟩ = some (.int .i64 0) := let ⟨_, t, _⟩ := R10.2.2.1; t.at_ rfl
  have HR10 := Lib.hid R10
  have HK10 := Lib.hid K9
  rw [eA] at hW8
  rw [hW8] at n0 fn gp8
  have HW9 := Lib.hid hW9
  have HW8 := Lib.hid hW8
  clear R10 K9 eA hW9 hW8
  go_wp2_with fail
  rw [← HW8.out, ← HW9.out]
  refine (form_any gt inp (a + 1) W9 0 false HR10.out.2.2.1).mono ?_
  rintro e w10 ⟨rfl, T10, G10⟩
  have RR := HR10.out.tape T10 G10
  dsimp only [badF, Bool.false_and] at RR
  rw [if_neg (by decide)] at RR
  have R10 := RR.1
  have K10 := HK10.out.trans RR.2
  have Y10 := HWY.out.rk K10
  have c10 : w10.cell? ⟨gt, 2, none⟩ = some (.int .i64 0) := let ⟨_, t, _⟩ := R10.2.2.1; t.at_ rfl
  have z10 := R10.hi
  have hrd10 := ownsRow_rd Y10.1
  have HR10' := Lib.hid R10
  have HK10' := Lib.hid K10
  have HY10 := Lib.hid Y10
  clear RR R10 K10 Y10 T10 G10 HR10 HK10 bad9 gp9 n0 fn gp8 HW8 HW9 HWY
  obtain ⟨W11, hW11⟩ : ∃ x, x = w10.alloc (Obj.cells #[] 3) := ⟨_, rfl⟩
  have OW11 : W11.ownsRow w10.heap.size 3 1 (.slice (some ⟨w10.heap.size, 0, none⟩) 0 0) 0 [] := by rw [hW11]; exact World.ownsRow_made w10 #[] 0 (Nat.le_refl _) (Nat.zero_le _) (by simp)
  have B11 : Below w10.heap.size w10 W11 := by rw [hW11]; exact (Below.refl _ _).alloc (Nat.le_refl _) _
  have hrd11 : Rd W11 0 w10.heap.size Aw (wayV wayl) := hrd10.below B11
  have zW11 := B11.size
  clear hrd10
  go_wp2_with (first | (at_builtin; rw [← hW11]; refine appR 86 (.int .i64 0) 8 Try.underlying86 infoI rfl (by decide) (by decide) rfl _ _ rfl rfl (n := 0) (base := w10.heap.size) OW11 Aw wayl.length cw rfl (wayV wayl) (by simp [wayV]) 0 _ hrd11 (wayV_one wayl) (by omega) zW11 ?_; intro A12 c12 w12 _ _ hO12 hb12 _ _; simp only [Nat.zero_add, List.nil_append] at hO12; have z12 : w10.heap.size ≤ w12.heap.size := by (have := hb12.size; omega)) | (at_builtin; refine appI rfl _ _ rfl rfl hO12 _ rfl rfl (by omega) z12 ?_; intro A13 c13 w13 hO13 hb13))
  have B13 : Below w10.heap.size w10 w13 := (B11.trans hb12).trans hb13
  have R13 := HR10'.out.below B13
  have K13 := HK10'.out.trans (RK.of_below gp gt _ B13)
  have Y13 := HY10.out.rk (RK.of_below gp gt _ B13)
  have N13 := WY.next (b := false) rfl HR10'.out hO13
  clear hO12 hb12 hO13 hb13 B11 B13 HR10' HK10' HY10 hrd11 OW11 zW11 hW11
  obtain ⟨n1, hn1⟩ : ∃ n, n = nds.length + 1 := ⟨_, rfl⟩
  refine (read_child HIH.out (wayl ++ [false]) _ _ (nds ++ [ndK (n8 k)]) n1 (by simp [hn1]) (a + 1) 0 w13 (by have := HW6.out; simp; omega) (by omega) (by simp; omega) R13 N13).mono ?_
  rintro e w14 ⟨rfl, gn2, N2, c2, y1, e1, a1, bad1, hN2, R14, K14, hp1, hp2, hp3, hr1⟩
  have K15 := K13.trans K14
  have Y15 := Y13.rk K14
  have z14 := R14.hi
  have hrd14 := ownsRow_rd Y15.1
  have HR14 := Lib.hid R14
  have HK14 := Lib.hid K15
  have HY14 := Lib.hid Y15
  have HR1 : Hid (RdOk (rd f (wayl ++ [false]) (inp.drop (a + 1))) n1 inp (y1 :: e1) a1 bad1) := Lib.hid (hr1.elim (fun h => h.2) (fun h => absurd rfl h.1))
  have hN2' : N2 = n1 + (y1 :: e1).length := by rw [hN2, hn1]; simp; omega
  have HN1 := Lib.hid hn1
  have HN2 := Lib.hid hN2
  have hn1b : n1 ≤ nds.length + 1 ∧ nds.length + 1 ≤ n1 := by omega
  have HN2' := Lib.hid hN2'
  have hl1 : N2 ≤ n1 + 1 + 2 * (a1 - (a + 1)) := by rw [hN2']; simp only [List.length_cons]; omega
  have hl1' : n1 < N2 := by rw [hN2']; simp
  clear R14 K14 K15 Y15 R13 K13 Y13 N13 hr1 hn1 hN2 hN2'
  obtain ⟨W15, hW15⟩ : ∃ x, x = w14.alloc (Obj.cells #[] 3) := ⟨_, rfl⟩
  have OW15 : W15.ownsRow w14.heap.size 3 1 (.slice (some ⟨w14.heap.size, 0, none⟩) 0 0) 0 [] := by rw [hW15]; exact World.ownsRow_made w14 #[] 0 (Nat.le_refl _) (Nat.zero_le _) (by simp)
  have B15 : Below w14.heap.size w14 W15 := by rw [hW15]; exact (Below.refl _ _).alloc (Nat.le_refl _) _
  have hrd15 : Rd W15 0 w14.heap.size Aw (wayV wayl) := hrd14.below B15
  have zW15 := B15.size
  clear hrd14
  go_wp2_with (first | (at_builtin; rw [← hW15]; refine appR 86 (.int .i64 0) 8 Try.underlying86 infoI rfl (by decide) (by decide) rfl _ _ rfl rfl (n := 0) (base := w14.heap.size) OW15 Aw wayl.length cw rfl (wayV wayl) (by simp [wayV]) 0 _ hrd15 (wayV_one wayl) (by omega) zW15 ?_; intro A16 c16 w16 _ _ hO16 hb16 _ _; simp only [Nat.zero_add, List.nil_append] at hO16; have z16 : w14.heap.size ≤ w16.heap.size := by (have := hb16.size; omega)) | (at_builtin; refine appI rfl _ _ rfl rfl hO16 _ rfl rfl (by omega) z16 ?_; intro A17 c17 w17 hO17 hb17))
  have B17 : Below w14.heap.size w14 w17 := (B15.trans hb16).trans hb17
  have R17 := HR14.out.below B17
  have K17 := HK14.out.trans (RK.of_below gp gt _ B17)
  have N17 := WY.next (b := true) rfl HR14.out hO17
  clear hO16 hb16 hO17 hb17 B15 B17 HR14 HK14 HY14 hrd15 OW15 zW15 hW15
  refine (read_child HIH.out (wayl ++ [true]) _ _ (nds ++ [ndK (n8 k)] ++ (y1 :: e1)) N2 HN2.out.symm a1 bad1 w17 (by have := HW6.out; simp; omega) (by omega) (by rw [← HN2.out]; omega) R17 N17).mono ?_
  rintro e w18 ⟨rfl, gn3, N3, c3, y2, e2, a2, bad2, hN3, R18, K18, hp4, hp5, hp6, hr2⟩
  have HR2 := Lib.hid hr2
  have hN3' : N3 = N2 + (y2 :: e2).length := by rw [hN3, List.length_append, ← HN2.out]
  have hl2 : N2 < N3 := by rw [hN3']; simp
  have HN3' := Lib.hid hN3'
  have HN3 := Lib.hid hN3
  have K19 := K17.trans K18
  have eN : nds ++ [ndK (n8 k)] ++ (y1 :: e1) ++ (y2 :: e2) = nds ++ ndK (n8 k) :: (y1 :: e1 ++ y2 :: e2) := by simp
  rw [eN] at R18 hN3
  have gp18 := R18.1.at_ (i := 0) rfl
  obtain ⟨W1, W2, hW1, hW2, R20, K20, cl, fl, cr, fr, gp1, gp2⟩ := R18.setlr hN3 n1 N2
  have ek1 := R20.kind (y := y1) (i := n1) (by rw [hN3]; simp) (by rw [HN1.out, List.getElem?_append_right (by omega)]; simp [Nat.add_sub_cancel_left])
  have ek2 := R20.kind (y := y2) (i := N2) (by rw [hN3]; simp) (by rw [HN2'.out, HN1.out, List.getElem?_append_right (by omega), show nds.length + 1 + (y1 :: e1).length - nds.length = (y1 :: e1).length + 1 by omega, List.getElem?_cons_succ, List.cons_append, ← List.cons_append, List.getElem?_append_right (Nat.le_refl _)]; simp)
  have HK20 := Lib.hid (K19.trans K20)
  have HR20 := Lib.hid R20
  have hli1 : (nds.length : Int) < (N3 : Int) := by omega
  have hli2 : (n1 : Int) < (N3 : Int) := by omega
  have hli3 : (N2 : Int) < (N3 : Int) := by omega
  clear R17 K17 N17 hr2 hN3 hN3' R18 K18 K19 eN R20 K20
  have HW1 := Lib.hid hW1
  have HW2 := Lib.hid hW2
  rw [hW1] at cr fr gp1
  clear hW1 hW2
  go_wp2_with fail
  rw [← HW1.out, ← HW2.out]
  go_quiet (fail)
  have R21 := HR20.out.below (below_drewN (Below.refl _ _) nq)
  have K21 := HK20.out.trans (RK.of_below gp gt _ (below_drewN (Below.refl _ _) nq))
  generalize W2.drewN nq = w21 at *
  have T21 := R21.2.2.1
  have HR21 := Lib.hid R21
  have HK21 := Lib.hid K21
  clear R21 K21 HW1 HW2 HR20 HK20 gp18 gp1 gp2 cl fl cr fr ek1 ek2
  rcases k3 y1.kind with ⟨p0, p1⟩ | ⟨p0, p1⟩ | ⟨p0, p1⟩ <;> rcases k3 y2.kind with ⟨p2, p3⟩ | ⟨p2, p3⟩ | ⟨p2, p3⟩
  all_goals
    go_wp2_with fail
    refine (form_any gt inp a2 w21 bad2 _ T21).mono ?_
    rintro e w22 ⟨rfl, T22, G22⟩
    have RR := HR21.out.tape T22 G22
    go_wp2_with fail
    go_ret
    exact k2_fin HK0.out HK.out HW6.out HN1.out HN2'.out HR1.out HR2.out RR.1 (HK21.out.trans RR.2) hp1 hp3 hp4 hp5 hp6 (by simp only [illK, p0, p1, p2, p3]; rfl)
end Go.Proofs.Ytlegpkdighoflaa
