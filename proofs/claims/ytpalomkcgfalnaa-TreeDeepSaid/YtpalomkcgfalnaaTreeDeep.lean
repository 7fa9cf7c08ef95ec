/- witanlaw09.TreeDeep answers true. -/
import Derived.Test.YtpalomkcgfalnaaFirst09
import Derived.Test.YtpalomkcgfalnaaDeepP
import Derived.Test.YtpalomkcgfalnaaHoistC
import Derived.Outline
set_option linter.unusedVariables false
set_option linter.unusedSimpArgs false
namespace Go.Proofs.Ytpalomkcgfalnaa
open Go Go.RowKit Sh
@[go_sem ↓ high] theorem shr128 (k : IntKind) (r : Nat) (hr : r < 8) : Op.shift .shr .u8 128 k (r : Int) = pure (.int .u8 (n8 (128 >>> UInt8.ofNat r))) := shrA8 128 k r hr
def InvD (k k2 : List UInt8) (b : Int) (g0 g1 n a q r : Nat) (T2 : Tr) (w2 : World) (listed : Array Bool) (ac : Act) (w : World) : Prop :=
  ∃ s7 s32 s35 : Value, ac = ⟨(A8 k :: .int .i64 b :: .pointer (some ⟨g0, 0, none⟩) :: undef :: .bool false :: .int .i64 (n : Int) :: .pointer (some ⟨g1, 0, none⟩) :: s7 :: undef :: undef :: undef :: undef :: .bool true :: .bool false :: .int .i64 b :: .int .u64 (a : Int) :: .int .u64 ((a : Int) % 256) :: .int .i64 (n : Int) :: A8 k :: .int .i64 (n : Int) :: .int .i64 (q : Int) :: .pointer (some ⟨g1, q, none⟩) :: .int .u8 (n8 (g8 k q)) :: .int .i64 (n : Int) :: .int .i64 ((n : Int) % 8) :: .int .u64 (r : Int) :: .int .u8 (n8 (128 >>> UInt8.ofNat r)) :: .int .u8 (n8 (g8 k q ^^^ 128 >>> UInt8.ofNat r)) :: .pointer (some ⟨g1, q, none⟩) :: .agg #[.pointer none, .int .i64 0] :: A8 k :: A8 (h1 1) :: s32 :: A8 k2 :: A8 (h1 2) :: s35 :: undef :: undef :: undef :: undef :: undef :: undef :: undef :: undef :: undef :: undef :: undef :: undef :: undef :: undef :: undef :: undef :: undef :: undef :: undef :: undef :: undef :: undef :: undef :: undef :: undef :: undef :: undef :: undef :: undef :: undef :: undef :: undef :: undef :: undef :: undef :: []).toArray, []⟩ ∧ Below w2.heap.size w2 w ∧ (∀ j ∈ [0, 1, 2, 4, 5], listed.getD j false = true) ∧
    (listed.getD 3 false = true → listed.getD 8 false = false → ∃ p, s32 = .agg #[.pointer p, .int .i64 0] ∧ At w w.heap.size (.lf k (h1 1)) (.pointer p)) ∧
    (listed.getD 6 false = true → listed.getD 8 false = false → ∃ p, s35 = .agg #[.pointer p, .int .i64 0] ∧ At w w.heap.size T2 (.pointer p)) ∧
    (listed.getD 7 false = true → listed.getD 8 false = false → ∃ g, s7 = .pointer (some ⟨g, 0, none⟩) ∧ w2.heap.size ≤ g ∧ Bk w g 40 [.pointer none, .int .i64 0]) ∧
    (listed.getD 8 false = true → ∃ g p, s7 = .pointer (some ⟨g, 0, none⟩) ∧ w2.heap.size ≤ g ∧ Bk w g 40 [.pointer p, .int .i64 0] ∧ At w w.heap.size T2 (.pointer p)) ∧
    (listed.getD 8 false = true → listed.getD 3 false = true ∧ listed.getD 6 false = true ∧ listed.getD 7 false = true)
theorem invD_mono {k k2 : List UInt8} {b : Int} {g0 g1 n a q r : Nat} {T2 : Tr} {w2 : World} {listed : Array Bool} {ac : Act} {w w' : World} (h : InvD k k2 b g0 g1 n a q r T2 w2 listed ac w) (hb : Below w.heap.size w w') (hz : w2.heap.size ≤ w.heap.size) : InvD k k2 b g0 g1 n a q r T2 w2 listed ac w' := by
  obtain ⟨s7, s32, s35, e, B, hq, F3, F6, F7, F8, F9⟩ := h
  refine ⟨s7, s32, s35, e, B.trans (hb.mono hz), hq, fun h1 h2 => ?_, fun h1 h2 => ?_, fun h1 h2 => ?_, fun h1 => ?_, F9⟩
  · obtain ⟨p, e1, e2⟩ := F3 h1 h2
    exact ⟨p, e1, (e2.below hb).more hb.size⟩
  · obtain ⟨p, e1, e2⟩ := F6 h1 h2
    exact ⟨p, e1, (e2.below hb).more hb.size⟩
  · obtain ⟨g, e1, e2, e3⟩ := F7 h1 h2
    exact ⟨g, e1, e2, e3.below hb e3.lt⟩
  · obtain ⟨g, p, e1, e2, e3, e4⟩ := F8 h1
    exact ⟨g, p, e1, e2, e3.below hb e3.lt, (e4.below hb).more hb.size⟩
theorem getD_clash {m : Array Bool} {i : Nat} (h1 : m.getD i true = false) (h2 : m.getD i false = true) : False := by
  rcases Nat.lt_or_ge i m.size with h | h
  · simp [h] at h1 h2; rw [h1] at h2; cases h2
  · simp [Array.getElem?_eq_none h] at h1
set_option maxRecDepth 100000 in
set_option maxHeartbeats 2000000 in
theorem treeDeep_any (k : List UInt8) (hk : k.length = 32) (b : Int) (hb : 0 ≤ IntKind.u64.wrap b ∧ IntKind.u64.wrap b < 18446744073709551616) (w : World) :
    Calls Try.prog 7 #[A8 k, .int .i64 b] w fun e w' => e = .returned (.bool true) ∧ Below w.heap.size w w' := by
  obtain ⟨a, ha⟩ := Int.eq_ofNat_of_zero_le hb.1
  have hn : (a : Int) % 256 = ((a % 256 : Nat) : Int) := by omega
  have hn2 : a % 256 < 256 := by omega
  generalize a % 256 = n at *
  have hq : (n : Int) / 8 = ((n / 8 : Nat) : Int) := by omega
  have hr : (n : Int) % 8 = ((n % 8 : Nat) : Int) := by omega
  have hq2 : n / 8 < 32 := by omega
  have hr2 : n % 8 < 8 := by omega
  have hturn : turned k n = k.set (n / 8) (g8 k (n / 8) ^^^ (128 >>> UInt8.ofNat (n % 8))) := rfl
  have hk2 : (turned k n).length = 32 := by rw [length_turned, hk]
  have hk1 := length_h1 1
  have hk12 := length_h1 2
  have htwo := two_puts k (h1 1) (h1 2) n hk hk1 hk12 hn2
  have hbits := kbit_turned k n
  have Htwo := Lib.hid htwo
  have Hbits := Lib.hid hbits
  have Hturn := Lib.hid hturn
  clear htwo hbits hturn
  generalize hqe : n / 8 = q at *
  generalize hre : n % 8 = r at *
  have Hq := Lib.hid hqe
  have Hr := Lib.hid hre
  clear hqe hre
  have k0 : (w.alloc (.cells (c8 k).toArray 25)).heap.size = w.heap.size + 1 := by simp
  go_enter Try.func7, Try.ntmps7
  go_wp2_with fail
  obtain ⟨wa, hwa⟩ : ∃ x, x = w.alloc (.cells (c8 k).toArray 25) := ⟨_, rfl⟩
  rw [← hwa]
  have Ka : Bk wa w.heap.size 25 (c8 k) := by rw [hwa]; exact Bk.new _ _ _
  have Ba : Below w.heap.size w wa := by rw [hwa]; exact (Below.refl _ _).alloc (Nat.le_refl _) _
  clear hwa k0
  refine (first09 wa).mono ?_
  rintro e w1 ⟨rfl, h1'⟩
  have K1 := Ka.below h1' Ka.lt
  have B1 := below_two Ba h1' Ba.size
  have r1 : rowAt w1 ⟨w.heap.size, 0, none⟩ 32 = some (c8 k) := by have := K1.rows; rwa [length_c8, hk] at this
  have z1 := K1.lt
  clear h1' Ka Ba
  have K2 : Bk (putAt (w1.alloc (Obj.cells (c8 (z8 32)).toArray 25)) ⟨w1.heap.size, 0, none⟩ (c8 k)) w1.heap.size 25 (c8 k) := (Bk.new w1 _ _).puts (by simp [hk])
  have e0 := K2.at_ (c8_at (l := k) (i := q) (by omega))
  have f0 := K2.frozen q
  go_wp2_with fail
  -- <region 6>
  have K3 := K2.set_ q (.int .u8 (n8 (g8 k q ^^^ 128 >>> UInt8.ofNat r)))
  have B3 : Below w.heap.size w ((putAt (w1.alloc (Obj.cells (c8 (z8 32)).toArray 25)) ⟨w1.heap.size, 0, none⟩ (c8 k)).setCell ⟨w1.heap.size, q, none⟩ (.int .u8 (n8 (g8 k q ^^^ 128 >>> UInt8.ofNat r)))) := (below_putAt (B1.alloc B1.size _) (by exact B1.size) _).setCell (by exact B1.size) _
  have K0 := ((K1.alloc (Obj.cells (c8 (z8 32)).toArray 25)).putFar (p := ⟨w1.heap.size, 0, none⟩) (by simp; omega) (c8 k)).far (p := ⟨w1.heap.size, q, none⟩) (by simp; omega) (.int .u8 (n8 (g8 k q ^^^ 128 >>> UInt8.ofNat r)))
  rw [c8_set, ← Hturn.out] at K3
  obtain ⟨w2, hw2⟩ : ∃ x, x = ((putAt (w1.alloc (Obj.cells (c8 (z8 32)).toArray 25)) ⟨w1.heap.size, 0, none⟩ (c8 k)).setCell ⟨w1.heap.size, q, none⟩ (.int .u8 (n8 (g8 k q ^^^ 128 >>> UInt8.ofNat r)))) := ⟨_, rfl⟩
  rw [← hw2] at K0 K3 B3 ⊢
  have z3 := K3.lt
  clear hw2 K1 K2 e0 f0 r1 B1
  generalize hk2e : turned k n = k2 at *
  have Hk2 := Lib.hid hk2e
  clear hk2e
  obtain ⟨T2, hT2⟩ : ∃ T2, T2 = ins k2 (h1 2) 256 0 (.lf k (h1 1)) := ⟨_, rfl⟩
  rw [← hT2] at Htwo
  have HT2 := Lib.hid hT2.symm
  clear hT2 hn hq hr
  have S0 : Below w2.heap.size w2 w2.drew := (Below.refl _ _).drew
  refine held_begin (fun W => Below w2.heap.size w2 W) (by kernel_rfl) ?_
  refine held_quiet (A := ?A) [0, 1, 2, 4, 5] (by kernel_rfl) (by kernel_rfl) rfl (by kernel_rfl) (by kernel_rfl) S0 (h := fun W hW => ?h) (hr := ?r)
  case h =>
    have r1 := (K0.below hW (by omega)).rows
    have r2 := (K3.below hW (by omega)).rows
    rw [length_c8, hk] at r1
    rw [length_c8, hk2] at r2
    simp only [pick, List.getElem?_cons_zero, List.getElem?_cons_succ]
    repeat (go_big_quiet_step (fail))
    refine wpQuiet_nil ?_
    rfl
  case r =>
    refine held_of_inv (InvD k k2 b w.heap.size w1.heap.size n a q r T2 w2) (by kernel_rfl) (fun _ _ _ h => by obtain ⟨_, _, _, _, h, _⟩ := h; exact h) ?step ?ende (by kernel_rfl) ?init
    case init => exact ⟨undef, undef, undef, rfl, S0, by decide, fun h => absurd h (by decide), fun h => absurd h (by decide), fun h => absurd h (by decide), fun h => absurd h (by decide), fun h => absurd h (by decide)⟩
    case step =>
      intro listed ac w i o hI hsz hi hun hpre K hK
      have hI0 := hI
      obtain ⟨s7, s32, s35, rfl, B, hqs, F3, F6, F7, F8, F9⟩ := hI
      have hil : i < 9 := by simpa using (List.getElem?_eq_some_iff.1 hi).1
      have hsz : listed.size = 9 := by simpa using hsz
      have hiq : i = 3 ∨ i = 6 ∨ i = 7 ∨ i = 8 := by
        apply Classical.byContradiction
        intro hn
        exact getD_clash hun (hqs i (by simp; omega))
      rcases hiq with rfl | rfl | rfl | rfl
      · have E : ∀ j, j ≠ 3 → (listed.setIfInBounds 3 true).getD j false = listed.getD j false := fun j hj => getD_set_ne false (Ne.symm hj)
        cases hi
        have HQ : ∀ j ∈ [0, 1, 2, 4, 5], (listed.setIfInBounds 3 true).getD j false = true := fun j hj => by rw [E j (by rintro rfl; simp at hj)]; exact hqs j hj
        have h8 : listed.getD 8 false = false := by
          cases h : listed.getD 8 false with
          | false => rfl
          | true => exact (getD_clash hun (F9 h).1).elim
        refine inv_op (by rfl) rfl (fun Q' hQ' => ?_)
        go_wp2_with fail
        refine (tput_any k (h1 1) hk hk1 0 .e (fun _ => false) (.pointer none) w (by omega) (fun i hi => by omega) trivial (by simp [Tr.len]) rfl).mono ?_
        rintro e w' ⟨p, rfl, hp, hb⟩
        have e1 : ins k (h1 1) (256 - 0) 0 Tr.e = .lf k (h1 1) := by simp [ins]
        rw [e1] at hp
        obtain ⟨ap, rfl⟩ := hp.form
        obtain ⟨s7, s32, s35, e, B, hqs, F3, F6, F7, F8, F9⟩ := invD_mono hI0 hb B.size
        cases e
        go_wp2_with fail
        refine ⟨(s7), (.agg #[.pointer ap, .int .i64 0]), (s35), rfl, B, HQ, ?_, ?_, ?_, ?_, ?_⟩
        · intro _ _; exact ⟨ap, rfl, hp⟩
        · rw [E 6 (by decide), E 8 (by decide)]; exact F6
        · rw [E 7 (by decide), E 8 (by decide)]; exact F7
        · rw [E 8 (by decide)]; exact F8
        · rw [E 8 (by decide), E 6 (by decide), E 7 (by decide)]; exact fun h => absurd h (by rw [h8]; simp)
      · have E : ∀ j, j ≠ 6 → (listed.setIfInBounds 6 true).getD j false = listed.getD j false := fun j hj => getD_set_ne false (Ne.symm hj)
        cases hi
        have HQ : ∀ j ∈ [0, 1, 2, 4, 5], (listed.setIfInBounds 6 true).getD j false = true := fun j hj => by rw [E j (by rintro rfl; simp at hj)]; exact hqs j hj
        have h8 : listed.getD 8 false = false := by
          cases h : listed.getD 8 false with
          | false => rfl
          | true => exact (getD_clash hun (F9 h).2.1).elim
        have h3 := hpre ⟨3, .data⟩ (by simp) rfl
        obtain ⟨p3, rfl, hp3⟩ := F3 h3 h8
        refine inv_op (by rfl) rfl (fun Q' hQ' => ?_)
        go_wp2_with fail
        refine (tput_any k2 (h1 2) hk2 hk12 0 (.lf k (h1 1)) (fun _ => false) (.pointer p3) w (by omega) (fun i hi => by omega) ⟨hk, hk1, fun i hi => by omega⟩ (by simp [Tr.len]) hp3).mono ?_
        rintro e w' ⟨p, rfl, hp, hb⟩
        rw [show 256 - 0 = 256 from rfl, HT2.out] at hp
        obtain ⟨ap, rfl⟩ := hp.form
        obtain ⟨s7, s32, s35, e, B, hqs, F3, F6, F7, F8, F9⟩ := invD_mono hI0 hb B.size
        cases e
        go_wp2_with fail
        refine ⟨(s7), (.agg #[.pointer p3, .int .i64 0]), (.agg #[.pointer ap, .int .i64 0]), rfl, B, HQ, ?_, ?_, ?_, ?_, ?_⟩
        · rw [E 3 (by decide), E 8 (by decide)]; exact F3
        · intro _ _; exact ⟨ap, rfl, hp⟩
        · rw [E 7 (by decide), E 8 (by decide)]; exact F7
        · rw [E 8 (by decide)]; exact F8
        · rw [E 8 (by decide), E 3 (by decide), E 7 (by decide)]; exact fun h => absurd h (by rw [h8]; simp)
      · have E : ∀ j, j ≠ 7 → (listed.setIfInBounds 7 true).getD j false = listed.getD j false := fun j hj => getD_set_ne false (Ne.symm hj)
        cases hi
        have HQ : ∀ j ∈ [0, 1, 2, 4, 5], (listed.setIfInBounds 7 true).getD j false = true := fun j hj => by rw [E j (by rintro rfl; simp at hj)]; exact hqs j hj
        have h8 : listed.getD 8 false = false := by
          cases h : listed.getD 8 false with
          | false => rfl
          | true => exact (getD_clash hun (F9 h).2.2).elim
        refine inv_op (by rfl) rfl (fun Q' hQ' => ?_)
        go_wp2_with fail
        have hb := (Below.refl w.heap.size w).alloc (Nat.le_refl _) (Obj.cells #[.pointer none, .int .i64 0] 40)
        have hz := B.size
        obtain ⟨s7, s32, s35, e, B, hqs, F3, F6, F7, F8, F9⟩ := invD_mono hI0 hb B.size
        cases e
        refine ⟨(.pointer (some ⟨w.heap.size, 0, none⟩)), (s32), (s35), rfl, B, HQ, ?_, ?_, ?_, ?_, ?_⟩
        · rw [E 3 (by decide), E 8 (by decide)]; exact F3
        · rw [E 6 (by decide), E 8 (by decide)]; exact F6
        · intro _ _; exact ⟨_, rfl, hz, Bk.new w _ [.pointer none, .int .i64 0]⟩
        · rw [E 8 (by decide)]; exact fun h => absurd h (by rw [h8]; simp)
        · rw [E 8 (by decide), E 3 (by decide), E 6 (by decide)]; exact fun h => absurd h (by rw [h8]; simp)
      · have E : ∀ j, j ≠ 8 → (listed.setIfInBounds 8 true).getD j false = listed.getD j false := fun j hj => getD_set_ne false (Ne.symm hj)
        cases hi
        have HQ : ∀ j ∈ [0, 1, 2, 4, 5], (listed.setIfInBounds 8 true).getD j false = true := fun j hj => by rw [E j (by rintro rfl; simp at hj)]; exact hqs j hj
        have h8 : listed.getD 8 false = false := by
          cases h : listed.getD 8 false with
          | false => rfl
          | true => exact (getD_clash hun h).elim
        have h3 := hpre ⟨3, .phase⟩ (by simp) rfl
        have h6 := hpre ⟨6, .data⟩ (by simp) rfl
        have h7 := hpre ⟨7, .data⟩ (by simp) rfl
        obtain ⟨p6, rfl, hp6⟩ := F6 h6 h8
        obtain ⟨g, rfl, hg, Kg⟩ := F7 h7 h8
        have c0 := Kg.at_ (i := 0) rfl
        have c1 := Kg.at_ (i := 1) rfl
        have f0 := Kg.frozen 0
        have f1 := Kg.frozen 1
        clear F3 F6 F7 F8
        refine inv_op (by rfl) rfl (fun Q' hQ' => ?_)
        go_wp2_with fail
        have K2 := (Kg.set_ 0 (.pointer p6)).set_ 1 (.int .i64 0)
        have a2 := (hp6.set_ Kg (by decide) 0 (.pointer p6)).set_ (Kg.set_ 0 (.pointer p6)) (by decide) 1 (.int .i64 0)
        have h88 : (listed.setIfInBounds 8 true).getD 8 false = true := by simp [hsz]
        refine ⟨(.pointer (some ⟨g, 0, none⟩)), (s32), (.agg #[.pointer p6, .int .i64 0]), rfl, (B.setCell hg _).setCell hg _, HQ, ?_, ?_, ?_, ?_, ?_⟩
        · rw [h88]; intro _ h; cases h
        · rw [h88]; intro _ h; cases h
        · rw [h88]; intro _ h; cases h
        · intro _; exact ⟨g, p6, rfl, hg, K2, a2.more (by simp)⟩
        · intro _; rw [E 3 (by decide), E 6 (by decide), E 7 (by decide)]; exact ⟨h3, h6, h7⟩
    case ende =>
      intro listed ac w3 hI hall
      obtain ⟨s7, s32, s35, rfl, B, hqs, F3, F6, F7, F8, F9⟩ := hI
      obtain ⟨g, p, rfl, hg, Kg, hat⟩ := F8 (hall 8 (by simp))
      have Kk := K0.below B (by omega)
      have BW := below_two B3 B B3.size
      have hTwo : ∃ P, TwoAt k k2 0 P T2 := ⟨_, Htwo.out⟩
      have hgw : w.heap.size < g := by omega
      clear F3 F6 F7 F8 F9 hqs hall B K0 K3 S0 z3 z1 hg
      go_wp2_with fail
      go_loopw [8] (fun t wr => ∃ (d : Nat) (s : Tr) (P : Nat → Bool) (p : Option Addr), d ≤ n ∧ t = .int .i64 (d : Int) ∧ Bk wr g 40 [.pointer p, .int .i64 (d : Int)] ∧ At wr wr.heap.size s (.pointer p) ∧ TwoAt k k2 d P s ∧ Bk wr w.heap.size 25 (c8 k) ∧ Below w.heap.size w wr) (fun t _ => 300 - (intOf t).toNat)
      case atStart =>
        obtain ⟨P, hP⟩ := hTwo
        exact ⟨0, T2, P, p, by omega, rfl, Kg, hat, hP, Kk, BW⟩
      case round =>
        clear Kg hat hTwo Kk BW
        obtain ⟨d, s, P, p, hd, rfl, Kg, hat, hP, Kk, BW⟩ := hrel
        obtain ⟨l, r2, rfl⟩ := hP.sides
        have hlen : l.len + r2.len = 2 := hP.2.1
        have hlen2 : (Tr.nd l r2).len = 2 := hP.2.1
        have c0 : wr.cell? ⟨g, 0, none⟩ = some (.pointer p) := Kg.at_ rfl
        have c1 : wr.cell? ⟨g, 1, none⟩ = some (.int .i64 (d : Int)) := Kg.at_ rfl
        have hle : decide ((d : Int) ≤ (n : Int)) = true := decide_eq_true (by omega)
        go_wp2_with fail
        refine (tsides_yes l r2 _ d wr hat (by omega) (by omega)).mono ?_
        rintro e w4 ⟨pl, pr, rfl, hal, har, h4⟩
        obtain ⟨al, rfl⟩ := hal.form
        obtain ⟨ar, rfl⟩ := har.form
        have Kg4 := Kg.below h4 Kg.lt
        have Kk4 := Kk.below h4 Kk.lt
        have hat4 := (hat.below h4).more h4.size
        have B4 := below_two BW h4 BW.size
        have c2 : w4.cell? ⟨g, 0, none⟩ = some (.pointer p) := Kg4.at_ rfl
        have c3 : w4.cell? ⟨g, 1, none⟩ = some (.int .i64 (d : Int)) := Kg4.at_ rfl
        have zg := Kg4.lt
        clear h4 c0 c1 Kg hat BW Kk
        go_wp2_with fail
        obtain ⟨w5, hw5⟩ : ∃ x, x = (w4.alloc (Obj.cells #[.pointer al, .int .i64 ((d : Int) + 1)] 40)).alloc (Obj.cells #[.pointer ar, .int .i64 ((d : Int) + 1)] 40) := ⟨_, rfl⟩
        rw [← hw5]
        have B5 : Below w4.heap.size w4 w5 := by rw [hw5]; exact ((Below.refl _ _).alloc (Nat.le_refl _) _).alloc (by simp) _
        have KL5 : Bk w5 w4.heap.size 40 [.pointer al, .int .i64 ((d : Int) + 1)] := by rw [hw5]; exact (Bk.new w4 _ [.pointer al, .int .i64 ((d : Int) + 1)]).alloc _
        have KR5 : Bk w5 (w4.heap.size + 1) 40 [.pointer ar, .int .i64 ((d : Int) + 1)] := by rw [hw5]; simpa using Bk.new (w4.alloc (Obj.cells #[.pointer al, .int .i64 ((d : Int) + 1)] 40)) 40 [.pointer ar, .int .i64 ((d : Int) + 1)]
        clear hw5
        have Kg5 := Kg4.below B5 zg
        have Kk5 := Kk4.below B5 Kk4.lt
        have hat5 := (hat4.below B5).more B5.size
        have hal5 := (hal.below B5).more B5.size
        have har5 := (har.below B5).more B5.size
        have B5' := below_two B4 B5 B4.size
        clear c2 c3 Kg4 Kk4 hat4 hal har B4 B5
        refine (tlen_any _ _ (d : Int) w5 hat5).mono ?_
        rintro e w6 ⟨rfl, h6⟩
        rw [hlen2]
        have Kg6 := Kg5.below h6 Kg5.lt
        have Kk6 := Kk5.below h6 Kk5.lt
        have KL6 := KL5.below h6 KL5.lt
        have KR6 := KR5.below h6 KR5.lt
        have hal6 := (hal5.below h6).more h6.size
        have har6 := (har5.below h6).more h6.size
        have B6 := below_two B5' h6 B5'.size
        clear h6 Kg5 Kk5 KL5 KR5 hat5 hal5 har5 B5'
        have x0 : w6.cell? ⟨w4.heap.size, 0, none⟩ = some (.pointer al) := KL6.at_ rfl
        have x1 : w6.cell? ⟨w4.heap.size, 1, none⟩ = some (.int .i64 ((d : Int) + 1)) := KL6.at_ rfl
        have x2 : w6.cell? ⟨w4.heap.size + 1, 0, none⟩ = some (.pointer ar) := KR6.at_ rfl
        have x3 : w6.cell? ⟨w4.heap.size + 1, 1, none⟩ = some (.int .i64 ((d : Int) + 1)) := KR6.at_ rfl
        have hkk := Hbits.out d hk hn2 (by omega)
        by_cases hdn : d = n
        · have hde : (decide ((d : Int) = (n : Int))) = true := decide_eq_true (by omega)
          have hp2 := hP.parts (by rw [hkk, hdn]; cases kbit k n <;> simp)
          obtain ⟨hp2, hp3⟩ := hp2
          clear hkk
          go_wp2_with fail
          refine (tlen_any l _ _ w6 hal6).mono ?_
          rintro e w7 ⟨rfl, h7⟩
          rw [hp2]
          have KR7 := KR6.below h7 KR6.lt
          have har7 := (har6.below h7).more h7.size
          have B7 := below_two B6 h7 B6.size
          have y2 : w7.cell? ⟨w4.heap.size + 1, 0, none⟩ = some (.pointer ar) := KR7.at_ rfl
          have y3 : w7.cell? ⟨w4.heap.size + 1, 1, none⟩ = some (.int .i64 ((d : Int) + 1)) := KR7.at_ rfl
          clear h7
          go_wp2_with fail
          refine (tlen_any r2 _ _ w7 har7).mono ?_
          rintro e w8 ⟨rfl, h8⟩
          rw [hp3]
          have B8 := below_two B7 h8 B7.size
          clear h8
          go_wp2_with fail
          go_ret
          exact ⟨rfl, B8⟩
        · have hde : (decide ((d : Int) = (n : Int))) = false := decide_eq_false (by omega)
          have hde2 : d < n := by omega
          obtain ⟨P', hP'⟩ := hP.deeper (by rw [hkk]; simp [hdn])
          clear hkk
          have f0 := Kg6.frozen 0
          have f1 := Kg6.frozen 1
          have z0 := Kg6.at_ (i := 0) rfl
          have z1 := Kg6.at_ (i := 1) rfl
          go_wp2_with fail
          obtain ⟨w7, hw7⟩ : ∃ x, x = (w6.setCell ⟨g, 0, none⟩ (.pointer al)).setCell ⟨g, 1, none⟩ (.int .i64 ((d : Int) + 1)) := ⟨_, rfl⟩
          rw [← hw7]
          have zg6 := Kg6.lt
          have zw6 := Kk6.lt
          have Kg7 : Bk w7 g 40 [.pointer al, .int .i64 ((d : Int) + 1)] := by rw [hw7]; exact (Kg6.set_ 0 (.pointer al)).set_ 1 (.int .i64 ((d : Int) + 1))
          have Kg6' := Kg6.set_ 0 (.pointer al)
          have Kk7 : Bk w7 w.heap.size 25 (c8 k) := by rw [hw7]; exact (Kk6.far (p := ⟨g, 0, none⟩) (by simp; omega) _).far (p := ⟨g, 1, none⟩) (by simp; omega) _
          have hal7 : At w7 w7.heap.size l (.pointer al) := by rw [hw7]; exact ((hal6.set_ Kg6 (by decide) 0 _).set_ Kg6' (by decide) 1 _).more (by simp)
          have har7 : At w7 w7.heap.size r2 (.pointer ar) := by rw [hw7]; exact ((har6.set_ Kg6 (by decide) 0 _).set_ Kg6' (by decide) 1 _).more (by simp)
          have KR7 : Bk w7 (w4.heap.size + 1) 40 [.pointer ar, .int .i64 ((d : Int) + 1)] := by rw [hw7]; exact (KR6.far (p := ⟨g, 0, none⟩) (by simp; omega) _).far (p := ⟨g, 1, none⟩) (by simp; omega) _
          have B7 : Below w.heap.size w w7 := by rw [hw7]; exact (B6.setCell (by simp; omega) _).setCell (by simp; omega) _
          clear zg hw7 Kg6 Kg6' Kk6 hal6 har6 KL6 KR6 B6 x0 x1 x2 x3 f0 f1 z0 z1 hde
          have rk := Kk7.rows
          rw [length_c8, hk] at rk
          have y2 : w7.cell? ⟨w4.heap.size + 1, 0, none⟩ = some (.pointer ar) := KR7.at_ rfl
          have y3 : w7.cell? ⟨w4.heap.size + 1, 1, none⟩ = some (.int .i64 ((d : Int) + 1)) := KR7.at_ rfl
          go_wp2_with fail
          simp only [rk, Option.elim_some]
          go_wp2_with fail
          refine (refbit_any k d hk (by omega) w7).mono ?_
          rintro e w8 ⟨rfl, h8⟩
          have Kg8 := Kg7.below h8 Kg7.lt
          have Kk8 := Kk7.below h8 Kk7.lt
          have KR8 := KR7.below h8 KR7.lt
          have hal8 := (hal7.below h8).more h8.size
          have har8 := (har7.below h8).more h8.size
          have B8 := below_two B7 h8 B7.size
          have zg8 := B7.size
          clear h8 Kg7 Kk7 KR7 hal7 har7 B7 rk y2 y3
          have x0 : w8.cell? ⟨w4.heap.size + 1, 0, none⟩ = some (.pointer ar) := KR8.at_ rfl
          have x1 : w8.cell? ⟨w4.heap.size + 1, 1, none⟩ = some (.int .i64 ((d : Int) + 1)) := KR8.at_ rfl
          have f0 := Kg8.frozen 0
          have f1 := Kg8.frozen 1
          have z0 := Kg8.at_ (i := 0) rfl
          have z1 := Kg8.at_ (i := 1) rfl
          cases hbit : kbit k d
          · rw [hbit, if_neg (by simp)] at hP'
            simp only [bitInt]
            go_wp2_with fail
            go_roundw
            case rel => exact ⟨d + 1, l, P', al, by omega, by go_num, by push_cast; exact Kg8, hal8, hP', Kk8, B8⟩
            case measure => simp [intOf]; omega
          · rw [hbit, if_pos rfl] at hP'
            simp only [bitInt]
            go_wp2_with fail
            go_roundw
            case rel => 
              have Kg9 := (Kg8.set_ 0 (.pointer ar)).set_ 1 (.int .i64 ((d : Int) + 1))
              refine ⟨d + 1, r2, P', ar, by omega, by go_num, by push_cast; exact Kg9, ?_, hP', ?_, (B8.setCell (by simp; omega) _).setCell (by simp; omega) _⟩
              · exact ((har8.set_ Kg8 (by decide) 0 _).set_ (Kg8.set_ 0 (.pointer ar)) (by decide) 1 _).more (by simp)
              · exact (Kk8.far (p := ⟨g, 0, none⟩) (by simp; omega) _).far (p := ⟨g, 1, none⟩) (by simp; omega) _
            case measure => simp [intOf]; omega
end Go.Proofs.Ytpalomkcgfalnaa
