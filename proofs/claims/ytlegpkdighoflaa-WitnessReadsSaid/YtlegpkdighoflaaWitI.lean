/- witness.Parse: the reader's node. -/
import Derived.Test.YtlegpkdighoflaaWitH
import Derived.Test.YtlegpkdighoflaaWitP
set_option linter.unusedVariables false
set_option linter.unusedSimpArgs false
namespace Go.Proofs.Ytlegpkdighoflaa
open Go Go.RowKit Sh
@[go_sem ↓ high] theorem shr128w (k : IntKind) (r : Nat) (hr : r < 8) : Op.shift .shr .u8 128 k (r : Int) = pure (.int .u8 (n8 (128 >>> UInt8.ofNat r))) := shrA8 128 k r hr
theorem hash_any (g : Nat) (l : List UInt8) (w : World) (bad : Int) (h : Rdr w g l bad) :
    Calls Try.prog 30 #[.pointer (some ⟨g, 0, none⟩)] w fun e w' => ∃ x l' bad', e = .returned (A8 x) ∧ x.length = 32 ∧ Rdr w' g l' bad' ∧ w.grownBy w' (some g) ∧
      ((bad = 0 ∧ 32 ≤ l.length ∧ x = l.take 32 ∧ l' = l.drop 32 ∧ bad' = 0) ∨ (bad = 0 ∧ l.length < 32 ∧ bad' = 10) ∨ (bad ≠ 0 ∧ bad' = bad)) := by
  by_cases hb : bad = 0
  · subst hb
    by_cases hl : 32 ≤ l.length
    · exact (hash_ok g l w hl h).mono fun e w' ⟨h1, h2, h3⟩ => ⟨_, _, _, h1, by simp; omega, h2, h3, .inl ⟨rfl, hl, rfl, rfl, rfl⟩⟩
    · exact (hash_none g l w 0 10 (.inr ⟨rfl, by omega, rfl⟩) h).mono fun e w' ⟨h1, h2, h3⟩ => ⟨_, _, _, h1, by simp, h2, h3, .inr (.inl ⟨rfl, by omega, rfl⟩)⟩
  · exact (hash_none g l w bad bad (.inl ⟨hb, rfl⟩) h).mono fun e w' ⟨h1, h2, h3⟩ => ⟨_, _, _, h1, by simp, h2, h3, .inr (.inr ⟨hb, rfl⟩)⟩
theorem Rdr.cells {w : World} {g : Nat} {l : List UInt8} {bad : Int} (h : Rdr w g l bad) : w.cell? ⟨g, 1, none⟩ = some (.int .i64 bad) := let ⟨_, h1, _⟩ := h; h1.at_ rfl
set_option maxRecDepth 100000 in
theorem node_bad (g : Nat) (l : List UInt8) (w : World) (bad : Int) (hb : bad ≠ 0) (path : List UInt8) (hp : path.length = 32) (d : Nat) (h : Rdr w g l bad) :
    Calls Try.prog 17 #[.pointer (some ⟨g, 0, none⟩), A8 path, .int .i64 (d : Int)] w fun e w' => e = .returned Pt.e.val ∧ Rdr w' g l bad ∧ w.grownBy w' (some g) := by
  obtain ⟨W0, hW0⟩ : ∃ x, x = w.alloc (Obj.cells (c8 path).toArray 24) := ⟨_, rfl⟩
  have B0 : Below w.heap.size w W0 := by rw [hW0]; exact (Below.refl _ _).alloc (Nat.le_refl _) _
  have r0 := h.below B0 h.lt
  have hne : (bad == 0) = false := beq_eq_false_iff_ne.2 hb
  have c1 := r0.cells
  go_enter Try.func17, Try.ntmps17
  go_wp2_with fail
  rw [← hW0]
  refine (take_bad g l W0 bad hb 1 r0).mono ?_
  rintro e w1 ⟨rfl, rfl⟩
  clear hW0
  have hne2 : (bad != 0) = true := by simp [hb]
  go_wp2_with fail
  go_ret
  exact ⟨rfl, r0, grown_of_below B0 g⟩
def NodeRes (g : Nat) (r : Except Nat (Pt × List UInt8)) (e : Ending) (w' : World) : Prop := match r with
  | .ok x => e = .returned x.1.val ∧ Rdr w' g x.2 0
  | .error n => ∃ (q : Pt) (l' : List UInt8), e = .returned q.val ∧ Rdr w' g l' (n : Int) ∧ q.Wf
theorem noderes_cases {g f : Nat} {way : List Bool} {l : List UInt8} {e : Ending} {w' : World} (hf : f + way.length = 256) (h : NodeRes g (rd f way l) e w') : ∃ (q : Pt) (l' : List UInt8) (bad : Int), e = .returned q.val ∧ q.Wf ∧ Rdr w' g l' bad ∧ ((bad = 0 ∧ rd f way l = .ok (q, l')) ∨ (bad ≠ 0 ∧ ∃ n : Nat, rd f way l = .error n ∧ bad = (n : Int))) := by
  cases hr : rd f way l with
  | ok x =>
    rw [hr] at h
    exact ⟨x.1, x.2, 0, h.1, (rd_sound f way l x.1 x.2 hf hr).2.1.wf, h.2, .inl ⟨rfl, rfl⟩⟩
  | error n =>
    rw [hr] at h
    obtain ⟨q, l', h1, h2, h3⟩ := h
    exact ⟨q, l', n, h1, h3, h2, .inr ⟨by rcases rd_short hr with rfl | rfl <;> decide, n, rfl, rfl⟩⟩
def chkTo (way : List Bool) (key : List UInt8) (n : Nat) : Bool := (List.range n).all fun i => kbit key i == wayP way i
theorem chkTo_chk (way : List Bool) (key : List UInt8) : chkTo way key way.length = chk way key := rfl
theorem chkTo_succ (way : List Bool) (key : List UInt8) (n : Nat) : chkTo way key (n + 1) = (chkTo way key n && (kbit key n == wayP way n)) := by simp [chkTo, List.range_succ]
def badN (bad0 : Int) (b : Bool) : Int := if bad0 == 0 && !b then 13 else bad0
theorem badN_succ {way : List Bool} {kk path : List UInt8} {i : Nat} {bad : Int} (h : kbit path i = wayP way i) : badF (!(kbit kk i == kbit path i)) (badN bad (chkTo way kk i)) = badN bad (chkTo way kk (i + 1)) := by
  rw [chkTo_succ, ← h]
  unfold badF badN
  by_cases hb : bad = 0
  · subst hb
    cases chkTo way kk i <;> cases (kbit kk i == kbit path i) <;> rfl
  · have : (bad == 0) = false := beq_eq_false_iff_ne.2 hb
    simp [this]
def setb (k : List UInt8) (n : Nat) : List UInt8 := k.set (n / 8) (g8 k (n / 8) ||| (128 >>> UInt8.ofNat (n % 8)))
theorem length_setb (k : List UInt8) (n : Nat) : (setb k n).length = k.length := by simp [setb]
theorem kbit_setb (k : List UInt8) (n i : Nat) (hk : k.length = 32) (hn : n < 256) (hi : i < 256) : kbit (setb k n) i = (kbit k i || decide (i = n)) := by
  rw [kbit_test, kbit_test]
  unfold setb g8
  by_cases h : i / 8 = n / 8
  · rw [h]
    have hl : n / 8 < k.length := by omega
    simp only [List.getD_eq_getElem?_getD, List.getElem?_set_self hl, Option.getD_some, List.getElem?_eq_getElem hl]
    rw [UInt8.toNat_or, UInt8.toNat_shiftRight, UInt8.toNat_ofNat', Nat.testBit_or]
    have e : n % 8 % 2 ^ 8 % 8 = n % 8 := by omega
    rw [e]
    have e2 : ((128 : UInt8).toNat >>> (n % 8)).testBit (7 - i % 8) = decide (i = n) := by
      have hi8 : i % 8 < 8 := by omega
      have hn8 : n % 8 < 8 := by omega
      have : (i = n) ↔ i % 8 = n % 8 := by omega
      simp only [this]
      show ((128 : Nat) >>> (n % 8)).testBit (7 - i % 8) = _
      generalize i % 8 = a at *
      generalize n % 8 = b at *
      have ha : a = 0 ∨ a = 1 ∨ a = 2 ∨ a = 3 ∨ a = 4 ∨ a = 5 ∨ a = 6 ∨ a = 7 := by omega
      have hb : b = 0 ∨ b = 1 ∨ b = 2 ∨ b = 3 ∨ b = 4 ∨ b = 5 ∨ b = 6 ∨ b = 7 := by omega
      rcases ha with rfl | rfl | rfl | rfl | rfl | rfl | rfl | rfl <;> rcases hb with rfl | rfl | rfl | rfl | rfl | rfl | rfl | rfl <;> rfl
    rw [e2]
  · have hne : i ≠ n := by intro e; exact h (by rw [e])
    simp only [List.getD_eq_getElem?_getD, List.getElem?_set_ne (Ne.symm h)]
    simp [hne]
theorem way_left {way : List Bool} {path : List UInt8} (h : ∀ i, i < 256 → kbit path i = wayP way i) : ∀ i, i < 256 → kbit path i = wayP (way ++ [false]) i := by
  intro i hi
  rw [h i hi]
  unfold wayP
  simp only [List.getD_eq_getElem?_getD, List.getElem?_append]
  split
  · rfl
  · rename_i hl
    rw [List.getElem?_eq_none (by omega)]
    cases hz : i - way.length with
    | zero => rfl
    | succ n => rfl
theorem way_right {way : List Bool} {path : List UInt8} (hp : path.length = 32) (hd : way.length < 256) (h : ∀ i, i < 256 → kbit path i = wayP way i) : ∀ i, i < 256 → kbit (setb path way.length) i = wayP (way ++ [true]) i := by
  intro i hi
  rw [kbit_setb _ _ _ hp hd hi, h i hi]
  unfold wayP
  simp only [List.getD_eq_getElem?_getD, List.getElem?_append]
  split
  · rename_i hl; simp [show i ≠ way.length by omega]
  · rename_i hl
    rw [List.getElem?_eq_none (by omega)]
    by_cases e : i = way.length
    · subst e; simp
    · obtain ⟨m, hm⟩ : ∃ m, i - way.length = m + 1 := ⟨i - way.length - 1, by omega⟩
      rw [hm]; simp [e]
def Pt.leafB : Pt → List UInt8 | .lf k v => pb (k, v) | _ => z8 64
@[go_sem] theorem build_in1 : ∀ (p : Pt) (w : World), (Instr.build 70 #[(0, p.val)]).run Try.prog w = .ok (.agg #[p.val, .nilIface]) w
  | .e, w => by kernel_rfl
  | .lf _ _, w => by kernel_rfl
  | .nd _ _, w => by kernel_rfl
  | .hd _, w => by kernel_rfl
theorem eql_nil_pt : ∀ (p : Pt) (w : World), (binOp .eql 29 p.val .nilIface).run Try.prog w = .ok (.bool p.isE) w
  | .e, w => by kernel_rfl
  | .lf _ _, w => by kernel_rfl
  | .nd _ _, w => by kernel_rfl
  | .hd _, w => by kernel_rfl
theorem Pt.form3 : ∀ p : Pt, (p.val = .nilIface ∧ p.isE = true ∧ p.isLf = false) ∨ (∃ t x, p.val = .iface t x ∧ p.isE = false ∧ p.isLf = true) ∨ (∃ t x, p.val = .iface t x ∧ p.isE = false ∧ p.isLf = false)
  | .e => .inl ⟨rfl, rfl, rfl⟩
  | .lf _ _ => .inr (.inl ⟨_, _, rfl, rfl, rfl⟩)
  | .nd _ _ => .inr (.inr ⟨_, _, rfl, rfl, rfl⟩)
  | .hd _ => .inr (.inr ⟨_, _, rfl, rfl, rfl⟩)
theorem fresh_can (W : World) (t : TypeId) (l : List UInt8) (n N : Nat) (hl : l.length = n) (hN : W.heap.size = N) : canAt (W.alloc (Obj.cells (c8 l).toArray t)) ⟨N, 0, none⟩ n = true := by
  subst hl hN
  exact (Bk.new W t (c8 l)).can (by simp)
theorem grown_below {w a b : World} {g : Nat} (h : w.grownBy a (some g)) (hb : Below w.heap.size a b) : w.grownBy b (some g) :=
  ⟨hb.os.trans h.os, hb.tape.trans h.tape, hb.output.trans h.output, Nat.le_trans h.size hb.size, fun k hk hne => (hb.block k hk).trans (h.block k hk hne)⟩
def NdV (ql qr : Pt) (v : Value) : Prop := v = (Pt.nd ql qr).val
def IllB (ql qr : Pt) (c : Bool) : Prop := ill ql qr = c
theorem node_fin {g f : Nat} {way : List Bool} {b l2 l3 : List UInt8} {ql qr : Pt} {bad2 bad3 : Int} {w : World} {c : Bool} {v : Value} (hv : NdV ql qr v) (hl : ql.Wf) (hr : qr.Wf) (hc : IllB ql qr c) (r : Rdr w g l3 (badF c bad3))
    (h2 : (bad2 = 0 ∧ rd f (way ++ [false]) b = .ok (ql, l2)) ∨ (bad2 ≠ 0 ∧ ∃ n : Nat, rd f (way ++ [false]) b = .error n ∧ bad2 = (n : Int)))
    (h3 : (bad2 = 0 ∧ bad3 = 0 ∧ rd f (way ++ [true]) l2 = .ok (qr, l3)) ∨ (bad2 = 0 ∧ bad3 ≠ 0 ∧ ∃ n : Nat, rd f (way ++ [true]) l2 = .error n ∧ bad3 = (n : Int)) ∨ (bad2 ≠ 0 ∧ bad3 = bad2)) :
    NodeRes g (rd (f + 1) way (2 :: b)) (.returned v) w := by
  unfold NdV at hv
  subst hv
  unfold IllB at hc
  have hres : rd (f + 1) way (2 :: b) = match rd f (way ++ [false]) b with
          | .error e => .error e
          | .ok (l, b1) => match rd f (way ++ [true]) b1 with
            | .error e => .error e
            | .ok (r, b2) => if ill l r then .error 13 else .ok (.nd l r, b2) := rfl
  rw [hres]
  have nz : ∀ {c : Bool} {x : Int}, x ≠ 0 → badF c x = x := fun {c x} h => by
    have : (x == 0) = false := beq_eq_false_iff_ne.2 h
    simp [badF, this]
  rcases h2 with ⟨e2, h2⟩ | ⟨e2, n, h2, hn⟩
  · rw [h2]
    rcases h3 with ⟨_, e3, h3⟩ | ⟨_, e3, n, h3, hn⟩ | ⟨h, _⟩
    · simp only [h3, hc]
      subst e3
      cases c with
      | true => exact ⟨_, _, rfl, r, hl, hr⟩
      | false => exact ⟨rfl, r⟩
    · simp only [h3]
      rw [nz e3, hn] at r
      exact ⟨_, _, rfl, r, hl, hr⟩
    · exact absurd e2 h
  · rw [h2]
    rcases h3 with ⟨h, _⟩ | ⟨h, _⟩ | ⟨_, h⟩
    · exact absurd h e2
    · exact absurd h e2
    · subst h
      rw [nz e2, hn] at r
      exact ⟨_, _, rfl, r, hl, hr⟩
theorem length_leafB : ∀ {p : Pt}, p.Wf → p.leafB.length = 64
  | .e, _ => by simp [Pt.leafB]
  | .lf _ _, h => PrOk.len h
  | .nd _ _, _ => by simp [Pt.leafB]
  | .hd _, _ => by simp [Pt.leafB]
@[go_sem] theorem as_leaf_pt : ∀ (p : Pt) (w : World), (Instr.typeAssert p.val 29 75 true).run Try.prog w = .ok (.tuple #[A8 p.leafB, .bool p.isLf]) w
  | .e, w => as_leaf_nil w
  | .lf _ _, w => as_leaf_leaf _ w
  | .nd _ _, w => as_leaf_inner _ w
  | .hd _, w => as_leaf_hidden _ w
section
variable (g f : Nat) (way : List Bool) (path : List UInt8) (hp : path.length = 32) (hw : ∀ i, i < 256 → kbit path i = wayP way i) (hf : f + way.length = 256)
include hp hw hf
set_option maxRecDepth 100000 in
set_option maxHeartbeats 4000000 in
theorem node_step (IH : ∀ f', f = f' + 1 → ∀ (way : List Bool) (path : List UInt8), path.length = 32 → (∀ i, i < 256 → kbit path i = wayP way i) → f' + way.length = 256 → ∀ (l : List UInt8) (w : World), Rdr w g l 0 →
    Calls Try.prog 17 #[.pointer (some ⟨g, 0, none⟩), A8 path, .int .i64 (way.length : Int)] w fun e w' => w.grownBy w' (some g) ∧ NodeRes g (rd f' way l) e w')
    (l : List UInt8) (w : World) (h : Rdr w g l 0) :
    Calls Try.prog 17 #[.pointer (some ⟨g, 0, none⟩), A8 path, .int .i64 (way.length : Int)] w fun e w' => w.grownBy w' (some g) ∧ NodeRes g (rd f way l) e w' := by
  obtain ⟨W0, hW0⟩ : ∃ x, x = w.alloc (Obj.cells (c8 path).toArray 24) := ⟨_, rfl⟩
  have B0 : Below w.heap.size w W0 := by rw [hW0]; exact (Below.refl _ _).alloc (Nat.le_refl _) _
  have K0 : Bk W0 w.heap.size 24 (c8 path) := by rw [hW0]; exact Bk.new w _ _
  have zg := h.lt
  have r0 := h.below B0 zg
  have G0 : w.grownBy W0 (some g) := grown_of_below B0 g
  cases l with
  | nil =>
    have hres : rd f way [] = .error 10 := by cases f <;> rfl
    rw [hres]
    go_enter Try.func17, Try.ntmps17
    go_wp2_with fail
    rw [← hW0]
    refine (take_short g [] W0 1 (by simp) (by omega) r0).mono ?_
    rintro e w1 ⟨rfl, r1, g1⟩
    have c1 := r1.cells
    go_wp2_with fail
    go_ret
    exact ⟨G0.trans g1, .e, [], rfl, r1, trivial⟩
  | cons k b =>
    go_enter Try.func17, Try.ntmps17
    go_wp2_with fail
    rw [← hW0]
    clear hW0
    refine (take_ok g (k :: b) W0 1 (by simp) r0).mono ?_
    simp only [List.take_succ_cons, List.take_zero, List.drop_succ_cons, List.drop_zero]
    rintro e w1 ⟨u, rfl, hu, r1, g1⟩
    have c1 := r1.cells
    obtain ⟨gu, ou, cu, rfl, hcu, hcu2, _, hgu, hcell⟩ := hu.row (by simp)
    have cu0 : w1.cell? ⟨gu, ou, none⟩ = some (.int .u8 (n8 k)) := by have h0 := (rowAt_some hcell).2 0 (v8 k) rfl; rw [addr_lit] at h0; exact h0
    have K1 := K0.grown (w' := w1) (row := some g) g1 (fun e => by injection e with e; omega)
    have G1 := G0.trans g1
    clear hu hcell hcu B0 K0 r0 G0 g1 h
    have q0 : (n8 k == 0) = (k == 0) := n8_beq (x := k) (y := 0)
    have q1 : (n8 k == 1) = (k == 1) := n8_beq (x := k) (y := 1)
    have q2 : (n8 k == 2) = (k == 2) := n8_beq (x := k) (y := 2)
    have q3 : (n8 k == 3) = (k == 3) := n8_beq (x := k) (y := 3)
    dsimp only [List.length_cons, List.length_nil]
    by_cases e0 : k = 0
    · -- <K0>
      subst e0
      rw [show ((0 : UInt8) == 0) = true from rfl] at q0
      have hres : rd f way (0 :: b) = .ok (.e, b) := by cases f <;> rfl
      go_wp2_with fail
      go_ret
      rw [hres]
      exact ⟨G1, rfl, r1⟩
      -- </K0>
    by_cases e1 : k = 1
    · -- <K1>
      subst e1
      rw [show ((1 : UInt8) == 0) = false from rfl] at q0
      rw [show ((1 : UInt8) == 1) = true from rfl] at q1
      have hres : rd f way (1 :: b) = if b.length < 64 then .error 10 else if chk way (b.take 32) then .ok (.lf (b.take 32) ((b.drop 32).take 32), b.drop 64) else .error 13 := by cases f <;> rfl
      have HR := Lib.hid hres
      clear hres
      go_wp2_with fail
      refine (hash_any g b w1 0 r1).mono ?_
      rintro e w2 ⟨kk, l2, bad2, rfl, hkk, r2, g2, hc2⟩
      have K2 := K1.grown (w' := w2) (row := some g) g2 (fun e => by injection e with e; omega)
      have G2 := G1.trans g2
      have HC2 := Lib.hid hc2
      clear hc2 r1 c1 cu0 K1 G1 g2
      go_wp2_with fail
      refine (hash_any g l2 w2 bad2 r2).mono ?_
      rintro e w3 ⟨vv, l3, bad3, rfl, hvv, r3, g3, hc3⟩
      have K3 := K2.grown (w' := w3) (row := some g) g3 (fun e => by injection e with e; omega)
      have G3 := G2.trans g3
      have HB : Hid ((bad3 = 0 ∧ 64 ≤ b.length ∧ kk = b.take 32 ∧ vv = (b.drop 32).take 32 ∧ l3 = b.drop 64) ∨ (bad3 = 10 ∧ b.length < 64)) := Lib.hid (by
        rcases HC2.out with ⟨_, h1, h2, h3, h4⟩ | ⟨_, h1, h2⟩ | ⟨h1, _⟩
        · subst h3 h4
          rcases hc3 with ⟨_, h5, h6, h7, h8⟩ | ⟨_, h5, h6⟩ | ⟨h5, _⟩
          · exact .inl ⟨h8, by simp at h5; omega, h2, h6, by rw [h7, List.drop_drop]⟩
          · exact .inr ⟨h6, by simp at h5; omega⟩
          · exact absurd rfl h5
        · subst h2
          rcases hc3 with ⟨h5, _⟩ | ⟨h5, _⟩ | ⟨_, h6⟩
          · cases h5
          · cases h5
          · exact .inr ⟨h6, by omega⟩
        · exact absurd rfl h1)
      clear hc3 HC2 r2 K2 G2 g3
      have hl64 : (pb (kk, vv)).length = 64 := PrOk.len ⟨hkk, hvv⟩
      obtain ⟨W4, hW4⟩ : ∃ x, x = putAt (w3.alloc (Obj.cells (c8 (z8 64)).toArray 75)) ⟨w3.heap.size, 0, none⟩ (c8 (pb (kk, vv))) := ⟨_, rfl⟩
      have L4 : Bk W4 w3.heap.size 75 (c8 (pb (kk, vv))) := by rw [hW4]; exact Bk.fresh w3 _ (by simp [hl64])
      have B4 : Below w3.heap.size w3 W4 := by rw [hW4]; exact below_putAt ((Below.refl _ _).alloc (Nat.le_refl _) _) (Nat.le_refl _) _
      have zg3 := r3.lt
      have K4 := K3.below B4 K3.lt
      have r4 := r3.below B4 zg3
      have G4 := G3.trans (grown_of_below B4 g)
      have zz : w.heap.size < w3.heap.size := K3.lt
      clear K3 G3 r3
      go_wp2_with fail
      rw [← hW4]
      clear hW4
      go_loopw [35] (fun t wr => ∃ i : Nat, i ≤ way.length ∧ t = .int .i64 (i : Int) ∧ Bk wr w3.heap.size 75 (c8 (pb (kk, vv))) ∧ Bk wr w.heap.size 24 (c8 path) ∧ Rdr wr g l3 (badN bad3 (chkTo way kk i)) ∧ w.grownBy wr (some g)) (fun t _ => way.length - (intOf t).toNat)
      case atStart => exact ⟨0, by omega, rfl, L4, K4, by simpa [badN, chkTo] using r4, G4⟩
      case round =>
        clear L4 K4 r4 G4 B4
        obtain ⟨i, hi, rfl, L5, K5, r5, G5⟩ := hrel
        by_cases hlt : i < way.length
        · go_wp2_with fail
          have S0 : Bk wr.drew w3.heap.size 75 (c8 (pb (kk, vv))) ∧ Bk wr.drew w.heap.size 24 (c8 path) := ⟨L5.drew, K5.drew⟩
          refine held_begin (fun W => Bk W w3.heap.size 75 (c8 (pb (kk, vv))) ∧ Bk W w.heap.size 24 (c8 path)) (by kernel_rfl) ?_
          refine held_quiet (A := ?A1) [0, 1, 2, 3, 5, 6] (by kernel_rfl) (by kernel_rfl) rfl (by kernel_rfl) (by kernel_rfl) S0 (h := fun W hW => ?h1) (hr := ?r1)
          case h1 =>
            have rk : rowAt W ⟨w3.heap.size, 0, none⟩ 32 = some (c8 kk) := pair_key hW.1 ⟨hkk, hvv⟩
            have rp : rowAt W ⟨w.heap.size, 0, none⟩ 32 = some (c8 path) := by have := hW.2.rows; rwa [length_c8, hp] at this
            simp only [pick, List.getElem?_cons_zero, List.getElem?_cons_succ]
            repeat (go_big_quiet_step (fail))
            refine wpQuiet_nil ?_
            rfl
          case r1 =>
            refine held_one 4 (by kernel_rfl) (by rfl) (by rfl) (fun Q' hQ' => ?_)
            dsimp only [bare]
            go_wp2_with fail
            refine (wbit_any kk i hkk (by omega) wr.drew).mono ?_
            rintro e w5 ⟨rfl, hb5⟩
            have r6 : Rdr w5 g l3 (badN bad3 (chkTo way kk i)) := Rdr.below (w := wr.drew) r5 hb5 r5.lt
            have S5 := And.intro (S0.1.below hb5 S0.1.lt) (S0.2.below hb5 S0.2.lt)
            have G6 : w.grownBy w5 (some g) := G5.trans (World.grownBy.trans (b := wr.drew) (grown_of_below (w := wr) (Below.refl _ _).drew g) (grown_of_below hb5 g))
            go_wp2_with fail
            refine hQ' _ _ S5 ?_
            clear hQ'
            refine held_one 7 (by kernel_rfl) (by rfl) (by rfl) (fun Q' hQ' => ?_)
            dsimp only [bare]
            go_wp2_with fail
            refine (wbit_any path i hp (by omega) w5).mono ?_
            rintro e w6 ⟨rfl, hb6⟩
            have r7 := r6.below hb6 r6.lt
            have S6 := And.intro (S5.1.below hb6 S5.1.lt) (S5.2.below hb6 S5.2.lt)
            have G7 := G6.trans (grown_of_below hb6 g)
            go_wp2_with fail
            refine hQ' _ _ S6 ?_
            clear hQ'
            refine held_quiet (A := ?A2) [8] (by kernel_rfl) (by kernel_rfl) rfl (by kernel_rfl) (by kernel_rfl) S6 (h := fun W hW => ?h2) (hr := ?r2)
            case h2 =>
              simp only [List.append_eq, List.nil_append, List.cons_append, pick, List.getElem?_cons_zero, List.getElem?_cons_succ]
              repeat (go_big_quiet_step (fail))
              refine wpQuiet_nil ?_
              rfl
            case r2 =>
              refine held_one 9 (by kernel_rfl) (by rfl) (by rfl) (fun Q' hQ' => ?_)
              dsimp only [bare]
              go_wp2_with fail
              refine (fail_any g l3 w6 _ (!(kbit kk i == kbit path i)) r7).mono ?_
              rintro e w7 ⟨rfl, r8, g8_⟩
              rw [badN_succ (hw i (by omega))] at r8
              have L8 := S6.1.grown (w' := w7) (row := some g) g8_ (fun e => by injection e with e; omega)
              have K8 := S6.2.grown (w' := w7) (row := some g) g8_ (fun e => by injection e with e; omega)
              have G8 := G7.trans g8_
              clear r5 r6 r7 L5 K5 G5 G6 G7 S0 S5 S6 hb5 hb6 g8_
              go_wp2_with fail
              refine hQ' _ _ ⟨L8, K8⟩ ?_
              clear hQ'
              refine held_end (by kernel_rfl) ?_
              go_wp2_with fail
              go_roundw
              case rel => exact ⟨i + 1, by omega, by go_num, L8, K8, r8, G8⟩
              case measure => simp [intOf]; omega
        · obtain rfl : i = way.length := by omega
          rw [chkTo_chk] at r5
          have rl : rowAt wr ⟨w3.heap.size, 0, none⟩ 64 = some (c8 (pb (kk, vv))) := by have := L5.rows; rwa [length_c8, hl64] at this
          go_wp2_with fail
          go_ret
          refine ⟨G5, ?_⟩
          rw [HR.out]
          rcases HB.out with ⟨h1, h2, rfl, rfl, rfl⟩ | ⟨h1, h2⟩
          · rw [if_neg (by omega)]
            subst h1
            cases hc : chk way (b.take 32) with
            | true => rw [hc] at r5; exact ⟨rfl, by simpa [badN] using r5⟩
            | false => rw [hc] at r5; exact ⟨.lf _ _, _, rfl, by simpa [badN] using r5, hkk, hvv⟩
          · rw [if_pos h2]
            subst h1
            exact ⟨.lf kk vv, l3, rfl, by simpa [badN] using r5, hkk, hvv⟩
      -- </K1>
    by_cases e2 : k = 2
    · -- <K2>
      subst e2
      rw [show ((2 : UInt8) == 0) = false from rfl] at q0
      rw [show ((2 : UInt8) == 1) = false from rfl] at q1
      rw [show ((2 : UInt8) == 2) = true from rfl] at q2
      cases f with
      | zero =>
        have hw256 : way.length = 256 := by omega
        have hge : decide ((way.length : Int) ≥ 256) = true := decide_eq_true (by omega)
        go_wp2_with fail
        refine (fail_any g b w1 0 true r1).mono ?_
        rintro e w2 ⟨rfl, r2, g2⟩
        have c2 := r2.cells
        dsimp only [badF] at c2
        go_wp2_with fail
        go_ret
        exact ⟨G1.trans g2, .e, b, rfl, r2, trivial⟩
      | succ f =>
        have hge : decide ((way.length : Int) ≥ 256) = false := decide_eq_false (by omega)
        have hfl : f + (way ++ [false]).length = 256 := by simp; omega
        have hfr : f + (way ++ [true]).length = 256 := by simp; omega
        have IHL := IH f rfl (way ++ [false]) path hp (way_left hw) hfl b
        have IHR := IH f rfl (way ++ [true]) (setb path way.length) (by rw [length_setb, hp]) (way_right hp (by omega) hw) hfr
        have el : (((way ++ [false]).length : Nat) : Int) = (way.length : Int) + 1 := by simp
        have er : (((way ++ [true]).length : Nat) : Int) = (way.length : Int) + 1 := by simp
        rw [er] at IHR
        rw [el] at IHL
        have HFL := Lib.hid hfl
        have HFR := Lib.hid hfr
        have HW := Lib.hid hw
        clear el er hfl hfr IH hw
        have hps : (setb path way.length).length = 32 := by rw [length_setb, hp]
        generalize hd : way.length = d at *
        have hset : setb path d = path.set (d / 8) (g8 path (d / 8) ||| (128 >>> UInt8.ofNat (d % 8))) := rfl
        have Hset := Lib.hid hset
        generalize hpe : setb path d = path2 at *
        clear hset hpe
        have hq : (d : Int) / 8 = ((d / 8 : Nat) : Int) := by omega
        have hr : (d : Int) % 8 = ((d % 8 : Nat) : Int) := by omega
        have hq2 : d / 8 < 32 := by omega
        have hr2 : d % 8 < 8 := by omega
        generalize hqe : d / 8 = q at *
        generalize hre : d % 8 = r at *
        clear hqe hre
        go_wp2_with fail
        refine (fail_any g b w1 0 false r1).mono ?_
        rintro e w2 ⟨rfl, r2, g2⟩
        have c2 := r2.cells
        dsimp only [badF] at r2 c2
        have K2 := K1.grown (w' := w2) (row := some g) g2 (fun e => by injection e with e; omega)
        have G2 := G1.trans g2
        have rp2 : rowAt w2 ⟨w.heap.size, 0, none⟩ 32 = some (c8 path) := by have := K2.rows; rwa [length_c8, hp] at this
        clear r1 c1 K1 G1 g2 cu0
        go_wp2_with fail
        refine (IHL w2 r2).mono ?_
        rintro e w3 ⟨g3, hN⟩
        obtain ⟨ql, l2, bad2, rfl, hwl, r3, hc2⟩ := noderes_cases HFL.out hN
        have HC2 := Lib.hid hc2
        have K3 := K2.grown (w' := w3) (row := some g) g3 (fun e => by injection e with e; omega)
        have G3 := G2.trans g3
        clear hN hc2 r2 c2 K2 G2 g3 rp2 IHL
        have hzz := K3.lt
        have zg3 := r3.lt
        obtain ⟨vv, hvv⟩ : ∃ x, x = Value.int .u8 (n8 (g8 path q ||| 128 >>> UInt8.ofNat r)) := ⟨_, rfl⟩
        have e0 := K3.at_ (c8_at (l := path) (i := q) (by omega))
        have f0 := K3.frozen q
        have K4 : Bk (w3.setCell ⟨w.heap.size, q, none⟩ vv) w.heap.size 24 (c8 path2) := by
          have := K3.set_ q vv
          rw [hvv, c8_set, ← Hset.out, ← hvv] at this
          exact this
        have z4 : (w3.setCell ⟨w.heap.size, q, none⟩ vv).heap.size = w3.heap.size := by simp
        have r4 : Rdr (w3.setCell ⟨w.heap.size, q, none⟩ vv) g l2 bad2 := r3.below ((Below.refl w.heap.size _).setCell (Nat.le_refl _) _) zg
        have G4 : w.grownBy (w3.setCell ⟨w.heap.size, q, none⟩ vv) (some g) :=
          ⟨G3.os, G3.tape, G3.output, by simpa using G3.size, fun k hk hne => (Below.heap_setCell _ ⟨w.heap.size, q, none⟩ _ k (show k ≠ w.heap.size by omega)).trans (G3.block k hk hne)⟩
        obtain ⟨W5, hW5⟩ : ∃ x, x = (w3.setCell ⟨w.heap.size, q, none⟩ vv).alloc (Obj.cells #[ql.val, .nilIface] 70) := ⟨_, rfl⟩
        have A5 : Bk W5 w3.heap.size 70 [ql.val, .nilIface] := by rw [hW5, ← z4]; exact Bk.new _ _ [_, _]
        have B5 : Below w3.heap.size (w3.setCell ⟨w.heap.size, q, none⟩ vv) W5 := by rw [hW5]; exact (Below.refl _ _).alloc (by rw [z4]; exact Nat.le_refl _) _
        have K5 := K4.below B5 hzz
        have r5 := r4.below B5 zg3
        have G5 := G4.trans (grown_of_below (by rw [z4]; exact B5) g)
        have rp5 : rowAt (w3.setCell ⟨w.heap.size, q, none⟩ (.int .u8 (n8 (g8 path q ||| 128 >>> UInt8.ofNat r)))) ⟨w.heap.size, 0, none⟩ 32 = some (c8 path2) := by
          have := K4.rows
          rw [length_c8, hps, hvv] at this
          exact this
        clear K3 G3 r3 K4 r4 G4 B5
        have hright : Calls Try.prog 17 #[.pointer (some ⟨g, 0, none⟩), A8 path2, .int .i64 ((d : Int) + 1)] W5 fun e w' => ∃ (qr : Pt) (l3 : List UInt8) (bad3 : Int), e = .returned qr.val ∧ qr.Wf ∧ Rdr w' g l3 bad3 ∧ W5.grownBy w' (some g) ∧
            ((bad2 = 0 ∧ bad3 = 0 ∧ rd f (way ++ [true]) l2 = .ok (qr, l3)) ∨ (bad2 = 0 ∧ bad3 ≠ 0 ∧ ∃ n : Nat, rd f (way ++ [true]) l2 = .error n ∧ bad3 = (n : Int)) ∨ (bad2 ≠ 0 ∧ bad3 = bad2)) := by
          by_cases hb2 : bad2 = 0
          · subst hb2
            refine (IHR l2 W5 r5).mono ?_
            rintro e w6 ⟨g6, hN⟩
            obtain ⟨qr, l3, bad3, h1, h2, h3, h4⟩ := noderes_cases HFR.out hN
            refine ⟨qr, l3, bad3, h1, h2, h3, g6, ?_⟩
            rcases h4 with ⟨h5, h6⟩ | ⟨h5, h6⟩
            · exact .inl ⟨rfl, h5, h6⟩
            · exact .inr (.inl ⟨rfl, h5, h6⟩)
          · exact (node_bad g l2 W5 bad2 hb2 path2 hps (d + 1) r5).mono fun e w6 ⟨h1, h2, h3⟩ => ⟨.e, l2, bad2, h1, trivial, h2, h3, .inr (.inr ⟨hb2, rfl⟩)⟩
        clear IHR
        go_wp2_with fail
        rw [← hvv, ← hW5]
        refine hright.mono ?_
        rintro e w6 ⟨qr, l3, bad3, rfl, hwr, r6, g6, hc3⟩
        have HC3 := Lib.hid hc3
        have A6 := A5.grown (w' := w6) (row := some g) g6 (fun e => by injection e with e; omega)
        have z6 := g6.size
        have z5 := A5.lt
        have G6 := G5.trans g6
        clear hright hc3 rp5 hW5 e0 f0 hvv K5 r5 A5 G5 g6
        have hbl := length_leafB hwl
        have hbr := length_leafB hwr
        have hal := as_leaf_pt ql
        have har := as_leaf_pt qr
        have zg6 := r6.lt
        have hfl := ql.form3
        have hfr := qr.form3
        have HILL : IllB ql qr (ql.isE && (qr.isE || qr.isLf) || qr.isE && ql.isLf) := rfl
        have HND : NdV ql qr (.iface 70 (.agg #[ql.val, qr.val])) := rfl
        generalize ql.leafB = bl at *
        generalize qr.leafB = br at *
        generalize ql.val = vl at *
        generalize qr.val = vr at *
        generalize ql.isE = el at *
        generalize qr.isE = er at *
        generalize ql.isLf = fl at *
        generalize qr.isLf = fr at *
        rcases hfl with ⟨rfl, rfl, rfl⟩ | ⟨tl, xl, rfl, rfl, rfl⟩ | ⟨tl, xl, rfl, rfl, rfl⟩ <;> rcases hfr with ⟨rfl, rfl, rfl⟩ | ⟨tr, xr, rfl, rfl, rfl⟩ | ⟨tr, xr, rfl, rfl, rfl⟩
        · clear har
          have a61 : w6.cell? ⟨w3.heap.size, 1, none⟩ = some .nilIface := A6.at_ rfl
          have af6 := A6.frozen 1
          have k1 := fresh_can (w6.setCell ⟨w3.heap.size, 1, none⟩ .nilIface) 75 (z8 64) 64 w6.heap.size (by simp) (by simp)
          have k2 := fresh_can (putAt ((w6.setCell ⟨w3.heap.size, 1, none⟩ .nilIface).alloc (Obj.cells (c8 (z8 64)).toArray 75)) ⟨w6.heap.size, 0, none⟩ (c8 bl)) 75 (z8 64) 64 (w6.heap.size + 1) (by simp) (by simp)
          have A7 := A6.set_ 1 .nilIface
          have A8_ := (A7.alloc (Obj.cells (c8 (z8 64)).toArray 75)).putFar (p := ⟨w6.heap.size, 0, none⟩) (by simp; omega) (c8 bl)
          have A9 := (A8_.alloc (Obj.cells (c8 (z8 64)).toArray 75)).putFar (p := ⟨w6.heap.size + 1, 0, none⟩) (by simp; omega) (c8 bl)
          obtain ⟨W9, hW9⟩ : ∃ x, x = putAt ((putAt ((w6.setCell ⟨w3.heap.size, 1, none⟩ .nilIface).alloc (Obj.cells (c8 (z8 64)).toArray 75)) ⟨w6.heap.size, 0, none⟩ (c8 bl)).alloc (Obj.cells (c8 (z8 64)).toArray 75)) ⟨w6.heap.size + 1, 0, none⟩ (c8 bl) := ⟨_, rfl⟩
          have B9 : Below w.heap.size w6 W9 := by rw [hW9]; exact below_putAt (((below_putAt (((Below.refl _ _).setCell (show w.heap.size ≤ w3.heap.size by omega) _).alloc (by simp; omega) _) (show w.heap.size ≤ w6.heap.size by omega) _)).alloc (by simp; omega) _) (show w.heap.size ≤ w6.heap.size + 1 by omega) _
          have r9 := r6.below B9 zg
          have G9 := grown_below G6 B9
          have d0 := A7.at_ (i := 0) rfl
          have d1 := A7.at_ (i := 1) rfl
          have d2 := A8_.at_ (i := 0) rfl
          have d3 := A8_.at_ (i := 1) rfl
          have d4 := A9.at_ (i := 0) rfl
          have d5 := A9.at_ (i := 1) rfl
          rw [← hW9] at A9
          clear A7 A8_ B9 G6 r6
          go_wp2_with fail
          rw [← hW9]
          clear hW9 d0 d1 d2 d3 d4 d5 k1 k2 a61 af6
          refine (fail_any g l3 W9 bad3 true r9).mono ?_
          rintro e w10 ⟨rfl, r10, g10⟩
          have A10 := A9.grown (w' := w10) (row := some g) g10 (fun e => by injection e with e; omega)
          have G10 := G9.trans g10
          have d0 := A10.at_ (i := 0) rfl
          have d1 := A10.at_ (i := 1) rfl
          clear A9 r9 G9 g10
          go_wp2_with fail
          go_ret
          refine ⟨G10, ?_⟩
          exact node_fin HND hwl hwr HILL r10 HC2.out HC3.out
        · have a61 : w6.cell? ⟨w3.heap.size, 1, none⟩ = some .nilIface := A6.at_ rfl
          have af6 := A6.frozen 1
          have k1 := fresh_can (w6.setCell ⟨w3.heap.size, 1, none⟩ (.iface tr xr)) 75 (z8 64) 64 w6.heap.size (by simp) (by simp)
          have k2 := fresh_can (putAt ((w6.setCell ⟨w3.heap.size, 1, none⟩ (.iface tr xr)).alloc (Obj.cells (c8 (z8 64)).toArray 75)) ⟨w6.heap.size, 0, none⟩ (c8 bl)) 75 (z8 64) 64 (w6.heap.size + 1) (by simp) (by simp)
          have A7 := A6.set_ 1 (.iface tr xr)
          have A8_ := (A7.alloc (Obj.cells (c8 (z8 64)).toArray 75)).putFar (p := ⟨w6.heap.size, 0, none⟩) (by simp; omega) (c8 bl)
          have A9 := (A8_.alloc (Obj.cells (c8 (z8 64)).toArray 75)).putFar (p := ⟨w6.heap.size + 1, 0, none⟩) (by simp; omega) (c8 br)
          obtain ⟨W9, hW9⟩ : ∃ x, x = putAt ((putAt ((w6.setCell ⟨w3.heap.size, 1, none⟩ (.iface tr xr)).alloc (Obj.cells (c8 (z8 64)).toArray 75)) ⟨w6.heap.size, 0, none⟩ (c8 bl)).alloc (Obj.cells (c8 (z8 64)).toArray 75)) ⟨w6.heap.size + 1, 0, none⟩ (c8 br) := ⟨_, rfl⟩
          have B9 : Below w.heap.size w6 W9 := by rw [hW9]; exact below_putAt (((below_putAt (((Below.refl _ _).setCell (show w.heap.size ≤ w3.heap.size by omega) _).alloc (by simp; omega) _) (show w.heap.size ≤ w6.heap.size by omega) _)).alloc (by simp; omega) _) (show w.heap.size ≤ w6.heap.size + 1 by omega) _
          have r9 := r6.below B9 zg
          have G9 := grown_below G6 B9
          have d0 := A7.at_ (i := 0) rfl
          have d1 := A7.at_ (i := 1) rfl
          have d2 := A8_.at_ (i := 0) rfl
          have d3 := A8_.at_ (i := 1) rfl
          have d4 := A9.at_ (i := 0) rfl
          have d5 := A9.at_ (i := 1) rfl
          rw [← hW9] at A9
          clear A7 A8_ B9 G6 r6
          go_wp2_with fail
          rw [← hW9]
          clear hW9 d0 d1 d2 d3 d4 d5 k1 k2 a61 af6
          refine (fail_any g l3 W9 bad3 true r9).mono ?_
          rintro e w10 ⟨rfl, r10, g10⟩
          have A10 := A9.grown (w' := w10) (row := some g) g10 (fun e => by injection e with e; omega)
          have G10 := G9.trans g10
          have d0 := A10.at_ (i := 0) rfl
          have d1 := A10.at_ (i := 1) rfl
          clear A9 r9 G9 g10
          go_wp2_with fail
          go_ret
          refine ⟨G10, ?_⟩
          exact node_fin HND hwl hwr HILL r10 HC2.out HC3.out
        · have a61 : w6.cell? ⟨w3.heap.size, 1, none⟩ = some .nilIface := A6.at_ rfl
          have af6 := A6.frozen 1
          have k1 := fresh_can (w6.setCell ⟨w3.heap.size, 1, none⟩ (.iface tr xr)) 75 (z8 64) 64 w6.heap.size (by simp) (by simp)
          have k2 := fresh_can (putAt ((w6.setCell ⟨w3.heap.size, 1, none⟩ (.iface tr xr)).alloc (Obj.cells (c8 (z8 64)).toArray 75)) ⟨w6.heap.size, 0, none⟩ (c8 bl)) 75 (z8 64) 64 (w6.heap.size + 1) (by simp) (by simp)
          have A7 := A6.set_ 1 (.iface tr xr)
          have A8_ := (A7.alloc (Obj.cells (c8 (z8 64)).toArray 75)).putFar (p := ⟨w6.heap.size, 0, none⟩) (by simp; omega) (c8 bl)
          have A9 := (A8_.alloc (Obj.cells (c8 (z8 64)).toArray 75)).putFar (p := ⟨w6.heap.size + 1, 0, none⟩) (by simp; omega) (c8 br)
          obtain ⟨W9, hW9⟩ : ∃ x, x = putAt ((putAt ((w6.setCell ⟨w3.heap.size, 1, none⟩ (.iface tr xr)).alloc (Obj.cells (c8 (z8 64)).toArray 75)) ⟨w6.heap.size, 0, none⟩ (c8 bl)).alloc (Obj.cells (c8 (z8 64)).toArray 75)) ⟨w6.heap.size + 1, 0, none⟩ (c8 br) := ⟨_, rfl⟩
          have B9 : Below w.heap.size w6 W9 := by rw [hW9]; exact below_putAt (((below_putAt (((Below.refl _ _).setCell (show w.heap.size ≤ w3.heap.size by omega) _).alloc (by simp; omega) _) (show w.heap.size ≤ w6.heap.size by omega) _)).alloc (by simp; omega) _) (show w.heap.size ≤ w6.heap.size + 1 by omega) _
          have r9 := r6.below B9 zg
          have G9 := grown_below G6 B9
          have d0 := A7.at_ (i := 0) rfl
          have d1 := A7.at_ (i := 1) rfl
          have d2 := A8_.at_ (i := 0) rfl
          have d3 := A8_.at_ (i := 1) rfl
          have d4 := A9.at_ (i := 0) rfl
          have d5 := A9.at_ (i := 1) rfl
          rw [← hW9] at A9
          clear A7 A8_ B9 G6 r6
          go_wp2_with fail
          rw [← hW9]
          clear hW9 d0 d1 d2 d3 d4 d5 k1 k2 a61 af6
          refine (fail_any g l3 W9 bad3 false r9).mono ?_
          rintro e w10 ⟨rfl, r10, g10⟩
          have A10 := A9.grown (w' := w10) (row := some g) g10 (fun e => by injection e with e; omega)
          have G10 := G9.trans g10
          have d0 := A10.at_ (i := 0) rfl
          have d1 := A10.at_ (i := 1) rfl
          clear A9 r9 G9 g10
          go_wp2_with fail
          go_ret
          refine ⟨G10, ?_⟩
          exact node_fin HND hwl hwr HILL r10 HC2.out HC3.out
        · have a61 : w6.cell? ⟨w3.heap.size, 1, none⟩ = some .nilIface := A6.at_ rfl
          have af6 := A6.frozen 1
          have k1 := fresh_can (w6.setCell ⟨w3.heap.size, 1, none⟩ .nilIface) 75 (z8 64) 64 w6.heap.size (by simp) (by simp)
          have k2 := fresh_can (putAt ((w6.setCell ⟨w3.heap.size, 1, none⟩ .nilIface).alloc (Obj.cells (c8 (z8 64)).toArray 75)) ⟨w6.heap.size, 0, none⟩ (c8 bl)) 75 (z8 64) 64 (w6.heap.size + 1) (by simp) (by simp)
          have A7 := A6.set_ 1 .nilIface
          have A8_ := (A7.alloc (Obj.cells (c8 (z8 64)).toArray 75)).putFar (p := ⟨w6.heap.size, 0, none⟩) (by simp; omega) (c8 bl)
          have A9 := (A8_.alloc (Obj.cells (c8 (z8 64)).toArray 75)).putFar (p := ⟨w6.heap.size + 1, 0, none⟩) (by simp; omega) (c8 br)
          obtain ⟨W9, hW9⟩ : ∃ x, x = putAt ((putAt ((w6.setCell ⟨w3.heap.size, 1, none⟩ .nilIface).alloc (Obj.cells (c8 (z8 64)).toArray 75)) ⟨w6.heap.size, 0, none⟩ (c8 bl)).alloc (Obj.cells (c8 (z8 64)).toArray 75)) ⟨w6.heap.size + 1, 0, none⟩ (c8 br) := ⟨_, rfl⟩
          have B9 : Below w.heap.size w6 W9 := by rw [hW9]; exact below_putAt (((below_putAt (((Below.refl _ _).setCell (show w.heap.size ≤ w3.heap.size by omega) _).alloc (by simp; omega) _) (show w.heap.size ≤ w6.heap.size by omega) _)).alloc (by simp; omega) _) (show w.heap.size ≤ w6.heap.size + 1 by omega) _
          have r9 := r6.below B9 zg
          have G9 := grown_below G6 B9
          have d0 := A7.at_ (i := 0) rfl
          have d1 := A7.at_ (i := 1) rfl
          have d2 := A8_.at_ (i := 0) rfl
          have d3 := A8_.at_ (i := 1) rfl
          have d4 := A9.at_ (i := 0) rfl
          have d5 := A9.at_ (i := 1) rfl
          rw [← hW9] at A9
          clear A7 A8_ B9 G6 r6
          go_wp2_with fail
          rw [← hW9]
          clear hW9 d0 d1 d2 d3 d4 d5 k1 k2 a61 af6
          refine (fail_any g l3 W9 bad3 true r9).mono ?_
          rintro e w10 ⟨rfl, r10, g10⟩
          have A10 := A9.grown (w' := w10) (row := some g) g10 (fun e => by injection e with e; omega)
          have G10 := G9.trans g10
          have d0 := A10.at_ (i := 0) rfl
          have d1 := A10.at_ (i := 1) rfl
          clear A9 r9 G9 g10
          go_wp2_with fail
          go_ret
          refine ⟨G10, ?_⟩
          exact node_fin HND hwl hwr HILL r10 HC2.out HC3.out
        · have a61 : w6.cell? ⟨w3.heap.size, 1, none⟩ = some .nilIface := A6.at_ rfl
          have af6 := A6.frozen 1
          have k1 := fresh_can (w6.setCell ⟨w3.heap.size, 1, none⟩ (.iface tr xr)) 75 (z8 64) 64 w6.heap.size (by simp) (by simp)
          have k2 := fresh_can (putAt ((w6.setCell ⟨w3.heap.size, 1, none⟩ (.iface tr xr)).alloc (Obj.cells (c8 (z8 64)).toArray 75)) ⟨w6.heap.size, 0, none⟩ (c8 bl)) 75 (z8 64) 64 (w6.heap.size + 1) (by simp) (by simp)
          have A7 := A6.set_ 1 (.iface tr xr)
          have A8_ := (A7.alloc (Obj.cells (c8 (z8 64)).toArray 75)).putFar (p := ⟨w6.heap.size, 0, none⟩) (by simp; omega) (c8 bl)
          have A9 := (A8_.alloc (Obj.cells (c8 (z8 64)).toArray 75)).putFar (p := ⟨w6.heap.size + 1, 0, none⟩) (by simp; omega) (c8 br)
          obtain ⟨W9, hW9⟩ : ∃ x, x = putAt ((putAt ((w6.setCell ⟨w3.heap.size, 1, none⟩ (.iface tr xr)).alloc (Obj.cells (c8 (z8 64)).toArray 75)) ⟨w6.heap.size, 0, none⟩ (c8 bl)).alloc (Obj.cells (c8 (z8 64)).toArray 75)) ⟨w6.heap.size + 1, 0, none⟩ (c8 br) := ⟨_, rfl⟩
          have B9 : Below w.heap.size w6 W9 := by rw [hW9]; exact below_putAt (((below_putAt (((Below.refl _ _).setCell (show w.heap.size ≤ w3.heap.size by omega) _).alloc (by simp; omega) _) (show w.heap.size ≤ w6.heap.size by omega) _)).alloc (by simp; omega) _) (show w.heap.size ≤ w6.heap.size + 1 by omega) _
          have r9 := r6.below B9 zg
          have G9 := grown_below G6 B9
          have d0 := A7.at_ (i := 0) rfl
          have d1 := A7.at_ (i := 1) rfl
          have d2 := A8_.at_ (i := 0) rfl
          have d3 := A8_.at_ (i := 1) rfl
          have d4 := A9.at_ (i := 0) rfl
          have d5 := A9.at_ (i := 1) rfl
          rw [← hW9] at A9
          clear A7 A8_ B9 G6 r6
          go_wp2_with fail
          rw [← hW9]
          clear hW9 d0 d1 d2 d3 d4 d5 k1 k2 a61 af6
          refine (fail_any g l3 W9 bad3 false r9).mono ?_
          rintro e w10 ⟨rfl, r10, g10⟩
          have A10 := A9.grown (w' := w10) (row := some g) g10 (fun e => by injection e with e; omega)
          have G10 := G9.trans g10
          have d0 := A10.at_ (i := 0) rfl
          have d1 := A10.at_ (i := 1) rfl
          clear A9 r9 G9 g10
          go_wp2_with fail
          go_ret
          refine ⟨G10, ?_⟩
          exact node_fin HND hwl hwr HILL r10 HC2.out HC3.out
        · have a61 : w6.cell? ⟨w3.heap.size, 1, none⟩ = some .nilIface := A6.at_ rfl
          have af6 := A6.frozen 1
          have k1 := fresh_can (w6.setCell ⟨w3.heap.size, 1, none⟩ (.iface tr xr)) 75 (z8 64) 64 w6.heap.size (by simp) (by simp)
          have k2 := fresh_can (putAt ((w6.setCell ⟨w3.heap.size, 1, none⟩ (.iface tr xr)).alloc (Obj.cells (c8 (z8 64)).toArray 75)) ⟨w6.heap.size, 0, none⟩ (c8 bl)) 75 (z8 64) 64 (w6.heap.size + 1) (by simp) (by simp)
          have A7 := A6.set_ 1 (.iface tr xr)
          have A8_ := (A7.alloc (Obj.cells (c8 (z8 64)).toArray 75)).putFar (p := ⟨w6.heap.size, 0, none⟩) (by simp; omega) (c8 bl)
          have A9 := (A8_.alloc (Obj.cells (c8 (z8 64)).toArray 75)).putFar (p := ⟨w6.heap.size + 1, 0, none⟩) (by simp; omega) (c8 br)
          obtain ⟨W9, hW9⟩ : ∃ x, x = putAt ((putAt ((w6.setCell ⟨w3.heap.size, 1, none⟩ (.iface tr xr)).alloc (Obj.cells (c8 (z8 64)).toArray 75)) ⟨w6.heap.size, 0, none⟩ (c8 bl)).alloc (Obj.cells (c8 (z8 64)).toArray 75)) ⟨w6.heap.size + 1, 0, none⟩ (c8 br) := ⟨_, rfl⟩
          have B9 : Below w.heap.size w6 W9 := by rw [hW9]; exact below_putAt (((below_putAt (((Below.refl _ _).setCell (show w.heap.size ≤ w3.heap.size by omega) _).alloc (by simp; omega) _) (show w.heap.size ≤ w6.heap.size by omega) _)).alloc (by simp; omega) _) (show w.heap.size ≤ w6.heap.size + 1 by omega) _
          have r9 := r6.below B9 zg
          have G9 := grown_below G6 B9
          have d0 := A7.at_ (i := 0) rfl
          have d1 := A7.at_ (i := 1) rfl
          have d2 := A8_.at_ (i := 0) rfl
          have d3 := A8_.at_ (i := 1) rfl
          have d4 := A9.at_ (i := 0) rfl
          have d5 := A9.at_ (i := 1) rfl
          rw [← hW9] at A9
          clear A7 A8_ B9 G6 r6
          go_wp2_with fail
          rw [← hW9]
          clear hW9 d0 d1 d2 d3 d4 d5 k1 k2 a61 af6
          refine (fail_any g l3 W9 bad3 false r9).mono ?_
          rintro e w10 ⟨rfl, r10, g10⟩
          have A10 := A9.grown (w' := w10) (row := some g) g10 (fun e => by injection e with e; omega)
          have G10 := G9.trans g10
          have d0 := A10.at_ (i := 0) rfl
          have d1 := A10.at_ (i := 1) rfl
          clear A9 r9 G9 g10
          go_wp2_with fail
          go_ret
          refine ⟨G10, ?_⟩
          exact node_fin HND hwl hwr HILL r10 HC2.out HC3.out
        · have a61 : w6.cell? ⟨w3.heap.size, 1, none⟩ = some .nilIface := A6.at_ rfl
          have af6 := A6.frozen 1
          have k1 := fresh_can (w6.setCell ⟨w3.heap.size, 1, none⟩ .nilIface) 75 (z8 64) 64 w6.heap.size (by simp) (by simp)
          have k2 := fresh_can (putAt ((w6.setCell ⟨w3.heap.size, 1, none⟩ .nilIface).alloc (Obj.cells (c8 (z8 64)).toArray 75)) ⟨w6.heap.size, 0, none⟩ (c8 bl)) 75 (z8 64) 64 (w6.heap.size + 1) (by simp) (by simp)
          have A7 := A6.set_ 1 .nilIface
          have A8_ := (A7.alloc (Obj.cells (c8 (z8 64)).toArray 75)).putFar (p := ⟨w6.heap.size, 0, none⟩) (by simp; omega) (c8 bl)
          have A9 := (A8_.alloc (Obj.cells (c8 (z8 64)).toArray 75)).putFar (p := ⟨w6.heap.size + 1, 0, none⟩) (by simp; omega) (c8 br)
          obtain ⟨W9, hW9⟩ : ∃ x, x = putAt ((putAt ((w6.setCell ⟨w3.heap.size, 1, none⟩ .nilIface).alloc (Obj.cells (c8 (z8 64)).toArray 75)) ⟨w6.heap.size, 0, none⟩ (c8 bl)).alloc (Obj.cells (c8 (z8 64)).toArray 75)) ⟨w6.heap.size + 1, 0, none⟩ (c8 br) := ⟨_, rfl⟩
          have B9 : Below w.heap.size w6 W9 := by rw [hW9]; exact below_putAt (((below_putAt (((Below.refl _ _).setCell (show w.heap.size ≤ w3.heap.size by omega) _).alloc (by simp; omega) _) (show w.heap.size ≤ w6.heap.size by omega) _)).alloc (by simp; omega) _) (show w.heap.size ≤ w6.heap.size + 1 by omega) _
          have r9 := r6.below B9 zg
          have G9 := grown_below G6 B9
          have d0 := A7.at_ (i := 0) rfl
          have d1 := A7.at_ (i := 1) rfl
          have d2 := A8_.at_ (i := 0) rfl
          have d3 := A8_.at_ (i := 1) rfl
          have d4 := A9.at_ (i := 0) rfl
          have d5 := A9.at_ (i := 1) rfl
          rw [← hW9] at A9
          clear A7 A8_ B9 G6 r6
          go_wp2_with fail
          rw [← hW9]
          clear hW9 d0 d1 d2 d3 d4 d5 k1 k2 a61 af6
          refine (fail_any g l3 W9 bad3 false r9).mono ?_
          rintro e w10 ⟨rfl, r10, g10⟩
          have A10 := A9.grown (w' := w10) (row := some g) g10 (fun e => by injection e with e; omega)
          have G10 := G9.trans g10
          have d0 := A10.at_ (i := 0) rfl
          have d1 := A10.at_ (i := 1) rfl
          clear A9 r9 G9 g10
          go_wp2_with fail
          go_ret
          refine ⟨G10, ?_⟩
          exact node_fin HND hwl hwr HILL r10 HC2.out HC3.out
        · have a61 : w6.cell? ⟨w3.heap.size, 1, none⟩ = some .nilIface := A6.at_ rfl
          have af6 := A6.frozen 1
          have k1 := fresh_can (w6.setCell ⟨w3.heap.size, 1, none⟩ (.iface tr xr)) 75 (z8 64) 64 w6.heap.size (by simp) (by simp)
          have k2 := fresh_can (putAt ((w6.setCell ⟨w3.heap.size, 1, none⟩ (.iface tr xr)).alloc (Obj.cells (c8 (z8 64)).toArray 75)) ⟨w6.heap.size, 0, none⟩ (c8 bl)) 75 (z8 64) 64 (w6.heap.size + 1) (by simp) (by simp)
          have A7 := A6.set_ 1 (.iface tr xr)
          have A8_ := (A7.alloc (Obj.cells (c8 (z8 64)).toArray 75)).putFar (p := ⟨w6.heap.size, 0, none⟩) (by simp; omega) (c8 bl)
          have A9 := (A8_.alloc (Obj.cells (c8 (z8 64)).toArray 75)).putFar (p := ⟨w6.heap.size + 1, 0, none⟩) (by simp; omega) (c8 br)
          obtain ⟨W9, hW9⟩ : ∃ x, x = putAt ((putAt ((w6.setCell ⟨w3.heap.size, 1, none⟩ (.iface tr xr)).alloc (Obj.cells (c8 (z8 64)).toArray 75)) ⟨w6.heap.size, 0, none⟩ (c8 bl)).alloc (Obj.cells (c8 (z8 64)).toArray 75)) ⟨w6.heap.size + 1, 0, none⟩ (c8 br) := ⟨_, rfl⟩
          have B9 : Below w.heap.size w6 W9 := by rw [hW9]; exact below_putAt (((below_putAt (((Below.refl _ _).setCell (show w.heap.size ≤ w3.heap.size by omega) _).alloc (by simp; omega) _) (show w.heap.size ≤ w6.heap.size by omega) _)).alloc (by simp; omega) _) (show w.heap.size ≤ w6.heap.size + 1 by omega) _
          have r9 := r6.below B9 zg
          have G9 := grown_below G6 B9
          have d0 := A7.at_ (i := 0) rfl
          have d1 := A7.at_ (i := 1) rfl
          have d2 := A8_.at_ (i := 0) rfl
          have d3 := A8_.at_ (i := 1) rfl
          have d4 := A9.at_ (i := 0) rfl
          have d5 := A9.at_ (i := 1) rfl
          rw [← hW9] at A9
          clear A7 A8_ B9 G6 r6
          go_wp2_with fail
          rw [← hW9]
          clear hW9 d0 d1 d2 d3 d4 d5 k1 k2 a61 af6
          refine (fail_any g l3 W9 bad3 false r9).mono ?_
          rintro e w10 ⟨rfl, r10, g10⟩
          have A10 := A9.grown (w' := w10) (row := some g) g10 (fun e => by injection e with e; omega)
          have G10 := G9.trans g10
          have d0 := A10.at_ (i := 0) rfl
          have d1 := A10.at_ (i := 1) rfl
          clear A9 r9 G9 g10
          go_wp2_with fail
          go_ret
          refine ⟨G10, ?_⟩
          exact node_fin HND hwl hwr HILL r10 HC2.out HC3.out
        · have a61 : w6.cell? ⟨w3.heap.size, 1, none⟩ = some .nilIface := A6.at_ rfl
          have af6 := A6.frozen 1
          have k1 := fresh_can (w6.setCell ⟨w3.heap.size, 1, none⟩ (.iface tr xr)) 75 (z8 64) 64 w6.heap.size (by simp) (by simp)
          have k2 := fresh_can (putAt ((w6.setCell ⟨w3.heap.size, 1, none⟩ (.iface tr xr)).alloc (Obj.cells (c8 (z8 64)).toArray 75)) ⟨w6.heap.size, 0, none⟩ (c8 bl)) 75 (z8 64) 64 (w6.heap.size + 1) (by simp) (by simp)
          have A7 := A6.set_ 1 (.iface tr xr)
          have A8_ := (A7.alloc (Obj.cells (c8 (z8 64)).toArray 75)).putFar (p := ⟨w6.heap.size, 0, none⟩) (by simp; omega) (c8 bl)
          have A9 := (A8_.alloc (Obj.cells (c8 (z8 64)).toArray 75)).putFar (p := ⟨w6.heap.size + 1, 0, none⟩) (by simp; omega) (c8 br)
          obtain ⟨W9, hW9⟩ : ∃ x, x = putAt ((putAt ((w6.setCell ⟨w3.heap.size, 1, none⟩ (.iface tr xr)).alloc (Obj.cells (c8 (z8 64)).toArray 75)) ⟨w6.heap.size, 0, none⟩ (c8 bl)).alloc (Obj.cells (c8 (z8 64)).toArray 75)) ⟨w6.heap.size + 1, 0, none⟩ (c8 br) := ⟨_, rfl⟩
          have B9 : Below w.heap.size w6 W9 := by rw [hW9]; exact below_putAt (((below_putAt (((Below.refl _ _).setCell (show w.heap.size ≤ w3.heap.size by omega) _).alloc (by simp; omega) _) (show w.heap.size ≤ w6.heap.size by omega) _)).alloc (by simp; omega) _) (show w.heap.size ≤ w6.heap.size + 1 by omega) _
          have r9 := r6.below B9 zg
          have G9 := grown_below G6 B9
          have d0 := A7.at_ (i := 0) rfl
          have d1 := A7.at_ (i := 1) rfl
          have d2 := A8_.at_ (i := 0) rfl
          have d3 := A8_.at_ (i := 1) rfl
          have d4 := A9.at_ (i := 0) rfl
          have d5 := A9.at_ (i := 1) rfl
          rw [← hW9] at A9
          clear A7 A8_ B9 G6 r6
          go_wp2_with fail
          rw [← hW9]
          clear hW9 d0 d1 d2 d3 d4 d5 k1 k2 a61 af6
          refine (fail_any g l3 W9 bad3 false r9).mono ?_
          rintro e w10 ⟨rfl, r10, g10⟩
          have A10 := A9.grown (w' := w10) (row := some g) g10 (fun e => by injection e with e; omega)
          have G10 := G9.trans g10
          have d0 := A10.at_ (i := 0) rfl
          have d1 := A10.at_ (i := 1) rfl
          clear A9 r9 G9 g10
          go_wp2_with fail
          go_ret
          refine ⟨G10, ?_⟩
          exact node_fin HND hwl hwr HILL r10 HC2.out HC3.out
      -- </K2>
    by_cases e3 : k = 3
    · -- <K3>
      subst e3
      rw [show ((3 : UInt8) == 0) = false from rfl] at q0
      rw [show ((3 : UInt8) == 1) = false from rfl] at q1
      rw [show ((3 : UInt8) == 2) = false from rfl] at q2
      rw [show ((3 : UInt8) == 3) = true from rfl] at q3
      have hres : rd f way (3 :: b) = if b.length < 32 then .error 10 else .ok (.hd (b.take 32), b.drop 32) := by cases f <;> rfl
      have HR := Lib.hid hres
      clear hres
      go_wp2_with fail
      refine (hash_any g b w1 0 r1).mono ?_
      rintro e w2 ⟨x, l', bad', rfl, hx, r2, g2, hc⟩
      have HC := Lib.hid hc
      clear hc
      go_wp2_with fail
      go_ret
      refine ⟨G1.trans g2, ?_⟩
      rw [HR.out]
      rcases HC.out with ⟨_, hl, rfl, rfl, rfl⟩ | ⟨_, hl, rfl⟩ | ⟨hl, _⟩
      · rw [if_neg (by omega)]
        exact ⟨rfl, r2⟩
      · rw [if_pos hl]
        exact ⟨.hd x, l', rfl, r2, hx⟩
      · exact absurd rfl hl
      -- </K3>
    · -- <KX>
      have f0 : (k == 0) = false := by simpa using e0
      have f1 : (k == 1) = false := by simpa using e1
      have f2 : (k == 2) = false := by simpa using e2
      have f3 : (k == 3) = false := by simpa using e3
      rw [f0] at q0
      rw [f1] at q1
      rw [f2] at q2
      rw [f3] at q3
      have hres : rd f way (k :: b) = .error 13 := by cases f <;> simp only [rd, rd1, e0, e1, e2, e3, if_false]
      go_wp2_with fail
      refine (fail_any g b w1 0 true r1).mono ?_
      rintro e w2 ⟨rfl, r2, g2⟩
      go_wp2_with fail
      go_ret
      rw [hres]
      exact ⟨G1.trans g2, .e, b, rfl, r2, trivial⟩
      -- </KX>
end
theorem node_any (g : Nat) : ∀ (f : Nat) (way : List Bool) (path : List UInt8), path.length = 32 → (∀ i, i < 256 → kbit path i = wayP way i) → f + way.length = 256 → ∀ (l : List UInt8) (w : World), Rdr w g l 0 →
    Calls Try.prog 17 #[.pointer (some ⟨g, 0, none⟩), A8 path, .int .i64 (way.length : Int)] w fun e w' => w.grownBy w' (some g) ∧ NodeRes g (rd f way l) e w' := by
  intro f
  induction f with
  | zero => intro way path hp hw hf l w h; exact node_step g 0 way path hp hw hf (fun f' e => by omega) l w h
  | succ f ih =>
    intro way path hp hw hf l w h
    refine node_step g (f + 1) way path hp hw hf (fun f' e => ?_) l w h
    have : f = f' := by omega
    subst this
    exact ih
end Go.Proofs.Ytlegpkdighoflaa
