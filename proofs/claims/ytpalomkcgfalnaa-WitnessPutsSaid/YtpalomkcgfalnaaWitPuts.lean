/- witanlaw10.WitnessPuts answers true. -/
import Derived.Test.YtpalomkcgfalnaaWitEmpty
import Derived.Test.YtpalomkcgfalnaaWitM
import Derived.Test.YtpalomkcgfalnaaMapT
set_option linter.unusedVariables false
set_option linter.unusedSimpArgs false
namespace Go.Proofs.Ytpalomkcgfalnaa
open Go Go.RowKit Sh
theorem get_both' {T : Tr} (ok : Okt T) (k : List UInt8) : ∃ u b, u.length = 32 ∧ getRes (T.look k 0) = .tuple #[A8 u, .bool b] ∧ lookRes (T.look k 0) = (u, b, 0) := by
  cases h : T.look k 0 with
  | none => exact ⟨z8 32, false, by simp, rfl, rfl⟩
  | some v => exact ⟨v, true, (Ok.keys ok _ ((look_some ok).1 h)).2.1, rfl, rfl⟩
def keyL (M : List Pr) (i : Nat) : List (List UInt8) := (M.take (min i 8)).map (·.1)
theorem keyL_in {M : List Pr} {i : Nat} {q : Pr} (hp : M[i]? = some q) (h : i < 8) : keyL M (i + 1) = keyL M i ++ [q.1] := by
  unfold keyL
  rw [show min (i + 1) 8 = i + 1 by omega, show min i 8 = i by omega, take_step hp]
  simp
theorem keyL_out {M : List Pr} {i : Nat} (h : 8 ≤ i) : keyL M (i + 1) = keyL M i := by
  unfold keyL
  rw [show min (i + 1) 8 = 8 by omega, show min i 8 = 8 by omega]
theorem keyL_length {M : List Pr} {i : Nat} : (keyL M i).length ≤ 8 := by unfold keyL; simp; omega
theorem keyL_mem {M : List Pr} {i : Nat} {q : Pr} (hp : M[i]? = some q) (h : i < 8) : q.1 ∈ keyL M M.length := by
  unfold keyL
  have hi := (List.getElem?_eq_some_iff.1 hp).1
  refine List.mem_map.2 ⟨q, ?_, rfl⟩
  refine List.mem_of_getElem? (i := i) ?_
  rw [List.getElem?_take, if_pos (by omega)]
  exact hp
theorem Hs.takes' {w : World} {lo B : Nat} {A : Option Addr} {n c : Nat} {l : List (List UInt8)} (h : Hs w lo B (.slice A n c) l) {k : Nat} (hk : k ≤ n) : (∀ x ∈ l.take k, x.length = 32) ∧ (l.take k).length = k ∧ Rd w lo B A (c8 (l.take k).flatten) := by
  obtain ⟨h0, A', c', hv, h1, h2, h3⟩ := h
  injection hv with e1 e2 e3
  subst e1 e2 e3
  have e : (l.take k).length = k := by simp; omega
  refine ⟨fun x hx => h0 x (List.mem_of_mem_take hx), e, ?_⟩
  have hf : (l.take k).flatten = l.flatten.take (k * 32) := by
    have hl := length_hflat (l := l.take k) fun x hx => h0 x (List.mem_of_mem_take hx)
    rw [e] at hl
    have h4 : l.flatten = (l.take k).flatten ++ (l.drop k).flatten := by rw [← List.flatten_append, List.take_append_drop]
    rw [h4, ← hl, List.take_left]
  rw [hf]
  have := h3.take (k * 32)
  simpa [c8, List.map_take] using this
def PuI (w : World) (gQ gT : Nat) (K : List (List UInt8)) (i : Nat) (q : Pt) (T : Tr) (p : Option Addr) (W : World) : Prop :=
  Bk W gQ 73 [q.val] ∧ Bk W gT 40 [.pointer p, .int .i64 0] ∧ At W W.heap.size T (.pointer p) ∧ Hid (View q T) ∧ Okt T ∧ T.len ≤ 25 + i ∧ Hid (∀ x ∈ K, q.knows x 0) ∧ Below w.heap.size w W
theorem PuI.more {w : World} {gQ gT : Nat} {K : List (List UInt8)} {i : Nat} {q : Pt} {T : Tr} {p : Option Addr} {W W' : World} (h : PuI w gQ gT K i q T p W) (hb : Below W.heap.size W W') : PuI w gQ gT K i q T p W' :=
  ⟨h.1.below hb h.1.lt, h.2.1.below hb h.2.1.lt, (h.2.2.1.below hb).more hb.size, h.2.2.2.1, h.2.2.2.2.1, h.2.2.2.2.2.1, h.2.2.2.2.2.2.1, below_two h.2.2.2.2.2.2.2 hb h.2.2.2.2.2.2.2.size⟩
set_option maxRecDepth 100000 in
set_option maxHeartbeats 8000000 in
theorem witPuts_any (v : Value) (L : List Pr) (v2 : Value) (H : List (List UInt8)) (v3 : Value) (M : List Pr) (w : World) (hv : Ps w 0 w.heap.size v L) (hH : Hs w 0 w.heap.size v2 H) (hM : Ps w 0 w.heap.size v3 M) :
    Calls Try.prog 15 #[v, v2, v3] w fun e w' => e = .returned (.bool true) ∧ Below w.heap.size w w' := by
  have hlok := hv.1
  have hmok := hM.1
  have hmsub := hM.sub
  have HPs0 := Lib.hid hv
  have HHs0 := Lib.hid hH
  obtain ⟨A2, c2, hv2, hc21, hc22⟩ := hH.form
  obtain ⟨A3, c3, hv3, hc31, hc32⟩ := hM.form
  clear hv hH hM
  subst hv2 hv3
  go_enter Try.func15, Try.ntmps15
  go_wp2_with fail
  refine (first10 w).mono ?_
  rintro e w0 ⟨rfl, B0⟩
  go_wp2_with fail
  refine (grown_any v L w0 ((HPs0.out.below B0).more B0.size)).mono ?_
  rintro e w1 ⟨p, u1, rfl, hAt1, _, b1⟩
  have okT : Okt (puts (L.take 25) .e) := Okt.puts (fun q hq => hlok q (List.mem_of_mem_take hq)) Okt.nil
  have lenT : (puts (L.take 25) .e).len ≤ 25 := by
    have := len_puts (l := L.take 25) (fun q hq => hlok q (List.mem_of_mem_take hq)) Okt.nil
    have h2 : (L.take 25).length ≤ 25 := by simp; omega
    simp only [Tr.len] at this
    omega
  generalize puts (L.take 25) .e = T at *
  have B1 := below_two B0 b1 B0.size
  obtain ⟨kn, hkn⟩ : ∃ kn, kn = min H.length 8 := ⟨_, rfl⟩
  have hmin : minI (H.length : Int) 8 = (kn : Int) := minI_eq (by split <;> omega)
  have hkn1 : kn ≤ H.length := by omega
  have hkn8 : kn ≤ 8 := by omega
  obtain ⟨hk0, hkl, hkr⟩ := (HHs0.out.below B1).takes' hkn1
  generalize H.take kn = K0 at *
  obtain ⟨W2, hW2⟩ : ∃ x, x = w1.alloc (Obj.cells #[.pointer p, .int .i64 0] 40) := ⟨_, rfl⟩
  have b2 : Below w1.heap.size w1 W2 := by rw [hW2]; exact (Below.refl _ _).alloc (Nat.le_refl _) _
  have T2 : Bk W2 w1.heap.size 40 [.pointer p, .int .i64 0] := by rw [hW2]; exact Bk.new w1 _ [_, _]
  have B2 := below_two B1 b2 B1.size
  have At2 := (hAt1.below b2).more b2.size
  have zgT := B1.size
  have hz2 : W2.heap.size = w1.heap.size + 1 := by rw [hW2]; simp
  obtain ⟨W3, hW3⟩ : ∃ x, x = W2.alloc (Obj.cells #[] 25) := ⟨_, rfl⟩
  have b3 : Below W2.heap.size W2 W3 := by rw [hW3]; exact (Below.refl _ _).alloc (Nat.le_refl _) _
  have O3 : W3.ownsRow W2.heap.size 25 32 (.slice (some ⟨w1.heap.size + 1, 0, none⟩) 0 0) 0 [] := by rw [hW3, ← hz2]; exact World.ownsRow_made W2 #[] 0 (Nat.le_refl _) (Nat.zero_le _) (by simp)
  have hkr3 : Rd W3 0 w.heap.size A2 (c8 K0.flatten) := hkr.below (b2.mono B1.size |>.trans (b3.mono (Nat.le_trans B1.size b2.size)))
  have hfl := length_hflat hk0
  have zz3 := b3.size
  clear hkn hAt1 b1 hkr
  go_wp2_with (at_builtin; rw [← hW2, ← hW3]; refine appR 50 (A8 (z8 32)) 32 Try.underlying50 infoH (by simp [A8, Value.cells]) (by decide) (by decide) rfl _ _ rfl rfl (n := 0) (base := W2.heap.size) O3 A2 kn c2 rfl (c8 K0.flatten) (by simp [hfl, hkl]) 0 _ hkr3 (by intro u hu; obtain ⟨x, _, rfl⟩ := List.mem_map.1 hu; rfl) (by omega) zz3 ?_; intro A4 c4 w4 hc41 hc42 hO4 hb4 hg4 hat4; obtain ⟨u4, hu4⟩ : ∃ u, u = Value.slice A4 (0 + kn) c4 := ⟨_, rfl⟩; rw [← hu4] at hO4 hat4 ⊢; clear hu4 hat4 hc41 hc42 hg4 hW2 hW3)
  have K4 : OwnK w4 W2.heap.size u4 (K0 ++ keyL M 0) := ⟨by simpa [keyL] using hk0, by simpa [keyL, hkl] using hO4⟩
  have b24 : Below W2.heap.size W2 w4 := b3.trans hb4
  clear hO4 O3 hkr3 b3 hb4 hz2 zz3
  obtain ⟨gT, hgT⟩ : ∃ g, g = w1.heap.size := ⟨_, rfl⟩
  rw [← hgT] at T2 zgT ⊢
  clear hgT b2
  go_loopw [9, 41] (fun u t wr => ∃ i : Nat, i ≤ M.length ∧ t = .int .i64 (i : Int) ∧ OwnK wr W2.heap.size u (K0 ++ keyL M i) ∧ Below W2.heap.size W2 wr) (fun _ t _ => M.length - (intOf t).toNat)
  case atStart => exact ⟨0, by omega, rfl, K4, b24⟩
  case round =>
    clear K4 b24
    obtain ⟨i, hi, rfl, O, B⟩ := hrel
    obtain ⟨w5, rfl⟩ : ∃ x, x = wr := ⟨_, rfl⟩
    have zT2 := T2.lt
    by_cases hlt : i < M.length
    · obtain ⟨q, hp⟩ : ∃ p, M[i]? = some p := ⟨_, List.getElem?_eq_getElem hlt⟩
      have hqok : PrOk q := hmok q (List.mem_of_getElem? hp)
      obtain ⟨g, o, c', hs⟩ := hmsub
      rcases hs with ⟨hrow, _, hg, hA, _, _⟩ | hs
      · injection hA with hA _ hA3
        subst hA hA3
        have hr := (hrow i q hp).1
        have B5 := B2.trans (B.mono B2.size)
        have hrw : rowAt w5 ⟨g, o + i * 64, none⟩ 64 = some (c8 (pb q)) := (rowAt_below B5 hg).trans hr
        have hq1 := hqok.1
        have hq2 := hqok.2
        have hqlen := hqok.len
        obtain ⟨W, hW⟩ : ∃ y, y = putAt (w5.alloc (Obj.cells (c8 (z8 64)).toArray 36)) ⟨w5.heap.size, 0, none⟩ (c8 (pb q)) := ⟨_, rfl⟩
        have hBq : Below w5.heap.size w5 W := by rw [hW]; exact below_putAt ((Below.refl _ _).alloc (Nat.le_refl _) _) (Nat.le_refl _) _
        have Q1 : Bk W w5.heap.size 36 (c8 (pb q)) := by rw [hW]; exact Bk.fresh w5 _ (by simp [hqlen])
        have O1 := O.below hBq (Nat.le_refl _)
        have BW := below_two B hBq B.size
        have qk := pair_key Q1 hqok
        have hWs : W.heap.size = w5.heap.size + 1 := by rw [hW]; simp
        rw [hW] at qk
        have hkm := keyL_length (M := M) (i := i)
        by_cases h8 : i < 8
        · have hge : decide ((i : Int) < 8) = true := decide_eq_true (by omega)
          have Hst := Lib.hid (keyL_in hp h8)
          have hkml : (K0 ++ keyL M i).length ≤ 16 := by simp; omega
          clear hr hp hrow O Q1 hBq
          generalize keyL M i = m at *
          have hlb : W2.heap.size ≤ W.heap.size := BW.size
          go_wp2_with (at_builtin; rw [← hW]; refine appK rfl _ _ rfl rfl O1 q.1 hq1 _ rfl rfl hWs (by omega) hlb ?_; intro A6 c6 w6 hO6 hB6; obtain ⟨u6, hu6⟩ : ∃ u, u = Value.slice A6 ((K0 ++ m).length + 1) c6 := ⟨_, rfl⟩; rw [← hu6] at hO6 ⊢; clear hu6)
          go_roundw
          case rel => exact ⟨i + 1, by omega, by go_num, by rw [Hst.out, ← List.append_assoc]; exact hO6, BW.trans hB6⟩
          case measure => simp [intOf]; omega
        · have hge : decide ((i : Int) < 8) = false := decide_eq_false (by omega)
          have Hst := Lib.hid (keyL_out (M := M) (i := i) (by omega))
          have HO1 := Lib.hid O1
          clear hr hp hrow O Q1 hBq O1
          go_wp2_with fail
          rw [← hW]
          go_roundw
          case rel => exact ⟨i + 1, by omega, by go_num, by rw [Hst.out]; exact HO1.out, BW⟩
          case measure => simp [intOf]; omega
      · subst hs; simp at hlt
    · obtain rfl : i = M.length := by omega
      have hKl : (K0 ++ keyL M M.length).length ≤ 16 := by have := keyL_length (M := M) (i := M.length); simp; omega
      have hmem : ∀ (i : Nat) (q : Pr), M[i]? = some q → i < 8 → q.1 ∈ K0 ++ keyL M M.length := fun i q hp h => List.mem_append.2 (.inr (keyL_mem hp h))
      have HMEM := Lib.hid hmem
      clear hmem
      have At5 := (At2.below B).more B.size
      have T5 := T2.below B zT2
      have B5 := below_two B2 B B2.size
      have HK5 := Lib.hid O.hs
      have hK32 := O.1
      obtain ⟨Ak, ck, huk, hck1, hck2⟩ := O.form
      subst huk
      clear O
      generalize K0 ++ keyL M M.length = K at *
      have c0 := cells_of2 T5
      obtain ⟨t0, t1⟩ := c0
      have zT5 := T5.lt
      have hks := HK5.out.row
      have hc := pcut_any T P0 okT (by omega) (.pointer p) (.slice Ak K.length ck) K w5 (by omega) At5 (HK5.out.less (Nat.zero_le _))
      have hvw := view_cut T K 0
      have hkn := fun x (hx : x ∈ K) => knows_cut T K 0 hx
      generalize T.cut K 0 = q0 at *
      have HC := Lib.hid hc
      have hqok := hvw.ok okT
      have HVW := Lib.hid hvw
      have HKN := Lib.hid hkn
      clear hc hvw hkn B T2 At2
      go_wp2_with fail
      refine HC.out.mono ?_
      clear HC
      rintro e w6 ⟨rfl, b6⟩
      have T6 := T5.below b6 zT5
      have At6 := (At5.below b6).more b6.size
      have B6 := below_two B5 b6 B5.size
      obtain ⟨W7, hW7⟩ : ∃ x, x = w6.alloc (Obj.cells #[q0.val] 73) := ⟨_, rfl⟩
      have b7 : Below w6.heap.size w6 W7 := by rw [hW7]; exact (Below.refl _ _).alloc (Nat.le_refl _) _
      have Q7 : Bk W7 w6.heap.size 73 [q0.val] := by rw [hW7]; exact Bk.new w6 _ [_]
      have T7 := T6.below b7 T6.lt
      have At7 := (At6.below b7).more b7.size
      have B7 := below_two B6 b7 B6.size
      have b57 : Below w5.heap.size w5 W7 := below_two b6 b7 b6.size
      have zQ0 : gT < w6.heap.size := T6.lt
      have zQ1 : w.heap.size ≤ w6.heap.size := B6.size
      clear T6 At6 B6 b6 b7 T5 At5 t0 t1
      go_wp2_with fail
      rw [← hW7]
      clear hW7
      obtain ⟨gQ, hgQ⟩ : ∃ g, g = w6.heap.size := ⟨_, rfl⟩
      rw [← hgQ] at Q7 zQ0 zQ1 ⊢
      clear hgQ
      obtain ⟨w7, rfl⟩ : ∃ x, x = W7 := ⟨_, rfl⟩
      go_loopw [59] (fun t wr => ∃ i : Nat, i ≤ K.length ∧ t = .int .i64 (i : Int) ∧ Below w7.heap.size w7 wr) (fun t _ => K.length - (intOf t).toNat)
      case atStart => exact ⟨0, by omega, rfl, Below.refl _ _⟩
      case round =>
        obtain ⟨i, hi, rfl, B8⟩ := hrel
        obtain ⟨w8, rfl⟩ : ∃ x, x = wr := ⟨_, rfl⟩
        have Q8 := Q7.below B8 Q7.lt
        have T8 := T7.below B8 T7.lt
        have At8 := (At7.below B8).more B8.size
        have zQ8 := Q7.lt
        have zT8 := T7.lt
        have zw8 := B8.size
        by_cases hil : i < K.length
        · obtain ⟨kk, hkk⟩ : ∃ x, K[i]? = some x := ⟨_, List.getElem?_eq_getElem hil⟩
          have hkk32 := hK32 kk (List.mem_of_getElem? hkk)
          have hkin := List.mem_of_getElem? hkk
          obtain ⟨gk, ok, ck', hs⟩ := hks
          rcases hs with ⟨hrow, _, hg, hA, _, _⟩ | hs
          · injection hA with hA _ hA3
            subst hA hA3
            have hr := hrow i kk hkk
            have b58 := below_two b57 B8 b57.size
            have hrw : rowAt w8 ⟨gk, ok + i * 32, none⟩ 32 = some (c8 kk) := (rowAt_below b58 hg).trans hr
            obtain ⟨u, bl, hu, hgr, hlr⟩ := get_both' okT kk
            have hget := view_get HVW.out (HKN.out kk hkin)
            rw [hlr] at hget
            have HG := Lib.hid hget
            have HGR := Lib.hid hgr
            clear hrow hr hkk hlr hget hgr
            obtain ⟨W9, hW9⟩ : ∃ y, y = putAt (w8.alloc (Obj.cells (c8 (z8 32)).toArray 25)) ⟨w8.heap.size, 0, none⟩ (c8 kk) := ⟨_, rfl⟩
            have b9 : Below w8.heap.size w8 W9 := by rw [hW9]; exact below_putAt ((Below.refl _ _).alloc (Nat.le_refl _) _) (Nat.le_refl _) _
            have X9 : Bk W9 w8.heap.size 25 (c8 kk) := by rw [hW9]; exact Bk.fresh w8 _ (by simp [hkk32])
            have Q9 := Q8.below b9 Q8.lt
            have T9 := T8.below b9 T8.lt
            have At9 := (At8.below b9).more b9.size
            have rx9 := X9.row32' hkk32
            have q9 := Q9.at_ (i := 0) rfl
            rw [hW9] at rx9 q9
            go_wp2_with fail
            rw [← hW9]
            clear hW9 rx9 q9 hrw
            refine (pget_any kk hkk32 q0 hqok.wf hqok.dp W9).mono ?_
            rw [HG.out]
            unfold pgRes
            dsimp only
            rintro e w10 ⟨rfl, b10⟩
            have X10 := X9.below b10 X9.lt
            have T10 := T9.below b10 T9.lt
            have At10 := (At9.below b10).more b10.size
            have B10 := below_two (below_two B8 b9 B8.size) b10 (Nat.le_trans B8.size b9.size)
            have zX := X9.lt
            have z10 := b10.size
            obtain ⟨W11, hW11⟩ : ∃ y, y = putAt (w10.alloc (Obj.cells (c8 (z8 32)).toArray 25)) ⟨w10.heap.size, 0, none⟩ (c8 u) := ⟨_, rfl⟩
            have b11 : Below w10.heap.size w10 W11 := by rw [hW11]; exact below_putAt ((Below.refl _ _).alloc (Nat.le_refl _) _) (Nat.le_refl _) _
            have V11 : Bk W11 w10.heap.size 25 (c8 u) := by rw [hW11]; exact Bk.fresh w10 _ (by simp [hu])
            have X11 := X10.below b11 X10.lt
            have T11 := T10.below b11 T10.lt
            have At11 := (At10.below b11).more b11.size
            have B11 := below_two B10 b11 B10.size
            have rx11 := X11.row32' hkk32
            obtain ⟨t0, t1⟩ := cells_of2 T11
            rw [hW11] at rx11 t0 t1
            clear X9 Q9 T9 At9 b9 X10 T10 At10 b10 B10 Q8 T8 At8
            go_wp2_with fail
            rw [← hW11]
            clear hW11 rx11 t0 t1
            refine (tget_any kk hkk32 0 T P0 (.pointer p) W11 (by omega) okT At11).mono ?_
            rw [HGR.out]
            rintro e w12 ⟨rfl, b12⟩
            have V12 := V11.below b12 V11.lt
            have B12 := below_two B11 b12 B11.size
            have zV := V11.lt
            have z12 := b12.size
            obtain ⟨W13, hW13⟩ : ∃ y, y = putAt (w12.alloc (Obj.cells (c8 (z8 32)).toArray 25)) ⟨w12.heap.size, 0, none⟩ (c8 u) := ⟨_, rfl⟩
            have b13 : Below w12.heap.size w12 W13 := by rw [hW13]; exact below_putAt ((Below.refl _ _).alloc (Nat.le_refl _) _) (Nat.le_refl _) _
            have V13 := V12.below b13 V12.lt
            have X13 : Bk W13 w12.heap.size 25 (c8 u) := by rw [hW13]; exact Bk.fresh w12 _ (by simp [hu])
            have B13 := below_two B12 b13 B12.size
            have rv13 := V13.row32' hu
            have rx13 := X13.row32' hu
            rw [hW13] at rv13 rx13
            clear V11 X11 T11 At11 b11 B11 V12 B12 b12
            go_wp2_with fail
            rw [← hW13]
            clear hW13 rv13 rx13
            go_roundw
            case rel => exact ⟨i + 1, by omega, by go_num, B13⟩
            case measure => simp [intOf]; omega
          · subst hs; simp at hil
        · obtain rfl : i = K.length := by omega
          have B9 := below_two B7 B8 B7.size
          have I9 : PuI w gQ gT K 0 q0 T p w8 := ⟨Q8, T8, At8, HVW, okT, by omega, HKN, B9⟩
          clear hks HK5 b57 B8 Q7 T7 At7 B7 Q8 T8 At8 B9 HVW okT lenT HKN hqok zQ8 zT8 zw8
          go_wp2_with fail
          go_loopw [91] (fun t wr => ∃ (i : Nat) (q : Pt) (T : Tr) (p : Option Addr), i ≤ M.length ∧ i ≤ 8 ∧ t = .int .i64 (i : Int) ∧ PuI w gQ gT K i q T p wr) (fun t _ => M.length - (intOf t).toNat)
          case atStart => exact ⟨0, q0, T, p, by omega, by omega, rfl, I9⟩
          case round =>
            clear I9
            obtain ⟨i, q, T, p2, hi, hi8, rfl, I⟩ := hrel
            obtain ⟨w9, rfl⟩ : ∃ x, x = wr := ⟨_, rfl⟩
            have zI := I.1.lt
            have zT9 := I.2.1.lt
            have okI := I.2.2.2.2.1
            have lenI := I.2.2.2.2.2.1
            have hqI := I.2.2.2.1.out.ok okI
            by_cases hlt : i < M.length
            · obtain ⟨pr, hp⟩ : ∃ p, M[i]? = some p := ⟨_, List.getElem?_eq_getElem hlt⟩
              have hqok : PrOk pr := hmok pr (List.mem_of_getElem? hp)
              obtain ⟨g, o, c', hs⟩ := hmsub
              rcases hs with ⟨hrow, _, hg, hA, _, _⟩ | hs
              · injection hA with hA _ hA3
                subst hA hA3
                have hr := (hrow i pr hp).1
                have hrw : rowAt w9 ⟨g, o + i * 64, none⟩ 64 = some (c8 (pb pr)) := (rowAt_below I.2.2.2.2.2.2.2 hg).trans hr
                have hq1 := hqok.1
                have hq2 := hqok.2
                have hqlen := hqok.len
                obtain ⟨W, hW⟩ : ∃ y, y = putAt (w9.alloc (Obj.cells (c8 (z8 64)).toArray 36)) ⟨w9.heap.size, 0, none⟩ (c8 (pb pr)) := ⟨_, rfl⟩
                have hBq : Below w9.heap.size w9 W := by rw [hW]; exact below_putAt ((Below.refl _ _).alloc (Nat.le_refl _) _) (Nat.le_refl _) _
                have Q1 : Bk W w9.heap.size 36 (c8 (pb pr)) := by rw [hW]; exact Bk.fresh w9 _ (by simp [hqlen])
                have IW := I.more hBq
                by_cases h8 : i < 8
                · have hge : decide ((i : Int) ≥ 8) = false := decide_eq_false (by omega)
                  have hkin := HMEM.out i pr hp h8
                  have qk := pair_key Q1 hqok
                  have qv := pair_val Q1 hqok
                  have c0 := IW.1.at_ (i := 0) rfl
                  rw [hW] at qk qv c0
                  obtain ⟨q2, hput, hvw2, hkn2⟩ := view_put (v := pr.2) hq1 256 0 q T P0 rfl (fun i hi => by omega) okI I.2.2.2.1.out (I.2.2.2.2.2.2.1.out pr.1 hkin)
                  change View q2 (put1 T pr.1 pr.2) at hvw2
                  have HP := Lib.hid hput
                  have HV2 := Lib.hid hvw2
                  have hkk2 : ∀ x ∈ K, q2.knows x 0 := fun x hx => hkn2 x (I.2.2.2.2.2.2.1.out x hx)
                  have HK2 := Lib.hid hkk2
                  have ok2 := okI.put hq1 hq2
                  have len2 := len_put1 (v := pr.2) okI hq1
                  have hq2ok := hvw2.ok ok2
                  have HR2 := Lib.hid hvw2.root
                  clear hput hvw2 hkk2 hkn2 hr hp hrow hkin I hBq
                  go_wp2_with fail
                  rw [← hW]
                  clear hW qk qv c0 hrw
                  refine (pput_any q pr.1 pr.2 hq1 hq2 P0 hqI W).mono ?_
                  rw [HP.out]
                  rintro e w10 ⟨qq, nn, rfl, hpp, b10⟩
                  obtain ⟨rfl, rfl⟩ := hpp
                  have I10 := IW.more b10
                  have Q10 := Q1.below b10 Q1.lt
                  have c10 := I10.1.at_ (i := 0) rfl
                  have f10 := I10.1.frozen 0
                  obtain ⟨W11, hW11⟩ : ∃ y, y = w10.setCell ⟨gQ, 0, none⟩ q2.val := ⟨_, rfl⟩
                  have G11 : Bk W11 gQ 73 [q2.val] := by rw [hW11]; exact I10.1.set_ 0 q2.val
                  have T11 : Bk W11 gT 40 [.pointer p2, .int .i64 0] := by rw [hW11]; exact I10.2.1.far (by simp; omega) _
                  have At11 : At W11 W11.heap.size T (.pointer p2) := by rw [hW11]; exact (I10.2.2.1.set_ I10.1 (by decide) 0 _).more (by simp)
                  have Q11 : Bk W11 w9.heap.size 36 (c8 (pb pr)) := by rw [hW11]; exact Q10.far (by simp; omega) _
                  have B11 : Below w.heap.size w W11 := by rw [hW11]; exact I10.2.2.2.2.2.2.2.setCell (p := ⟨gQ, 0, none⟩) zQ1 _
                  have qk := pair_key Q11 hqok
                  have qv := pair_val Q11 hqok
                  obtain ⟨t0, t1⟩ := cells_of2 T11
                  rw [hW11] at qk qv t0 t1
                  go_wp2_with fail
                  rw [← hW11]
                  clear hW11 qk qv t0 t1 c10 f10 Q10 I10 IW Q1 b10
                  refine (tput_any pr.1 pr.2 hq1 hq2 0 T P0 (.pointer p2) W11 (by omega) (fun i hi => by omega) okI (by omega) At11).mono ?_
                  rintro e w12 ⟨p3, rfl, hAt12, b12⟩
                  change At w12 w12.heap.size (put1 T pr.1 pr.2) p3 at hAt12
                  obtain ⟨ap3, rfl⟩ := hAt12.form
                  have G12 := G11.below b12 G11.lt
                  have T12 := T11.below b12 T11.lt
                  have B12 := below_two B11 b12 B11.size
                  have f0 := T12.frozen 0
                  have f1 := T12.frozen 1
                  obtain ⟨z0, z1⟩ := cells_of2 T12
                  obtain ⟨W13, hW13⟩ : ∃ y, y = (w12.setCell ⟨gT, 0, none⟩ (.pointer ap3)).setCell ⟨gT, 1, none⟩ (.int .i64 0) := ⟨_, rfl⟩
                  have T13 : Bk W13 gT 40 [.pointer ap3, .int .i64 0] := by rw [hW13]; exact (T12.set_ 0 (.pointer ap3)).set_ 1 (.int .i64 0)
                  have At13 : At W13 W13.heap.size (put1 T pr.1 pr.2) (.pointer ap3) := by rw [hW13]; exact ((hAt12.set_ T12 (by decide) 0 _).set_ (T12.set_ 0 (.pointer ap3)) (by decide) 1 _).more (by simp)
                  have G13 : Bk W13 gQ 73 [q2.val] := by rw [hW13]; exact (G12.far (by simp; omega) _).far (by simp; omega) _
                  have B13 : Below w.heap.size w W13 := by rw [hW13]; exact (B12.setCell (p := ⟨gT, 0, none⟩) zgT _).setCell (p := ⟨gT, 1, none⟩) zgT _
                  clear G11 T11 At11 Q11 B11 G12 B12 b12 hAt12
                  generalize put1 T pr.1 pr.2 = T2 at *
                  have I13 : PuI w gQ gT K (i + 1) q2 T2 ap3 W13 := ⟨G13, T13, At13, HV2, ok2, by omega, HK2, B13⟩
                  have hrl := T2.root_length
                  go_wp2_with fail
                  rw [← hW13]
                  clear hW13 f0 f1 z0 z1 T12
                  have zq := G13.lt
                  have zt := T13.lt
                  obtain ⟨t0, t1⟩ := cells_of2 T13
                  have p0 := G13.at_ (i := 0) rfl
                  have hpr : ∀ W : World, Calls Try.prog 40 #[.agg #[q2.val]] W fun e w' => e = .returned (A8 T2.root) ∧ Below W.heap.size W w' := fun W => by
                    have := proots_any q2 hq2ok.wf W
                    rw [HR2.out] at this
                    exact this
                  refine wp_ext (by kernel_rfl) (by kernel_rfl) ?_
                  repeat (go_big_quiet_step (first | (go_at_call 40; exact quiet_ext (fun W hW => hpr W)) | (go_at_call 23; exact quiet_ext (fun W hW => troot_any T2 (.pointer ap3) 0 W ((At13.below hW).more hW.size)))))
                  refine wpQuiet_nil ?_
                  rintro w14 ⟨p14, hw14⟩
                  have Be : Below W13.heap.size W13 w14 := by rw [hw14]; exact below_ext W13 p14
                  have I14 := I13.more Be
                  clear hw14 t0 t1 p0 I13 G13 T13 At13 B13 Be
                  go_wp2_with fail
                  go_roundw
                  case rel => exact ⟨i + 1, q2, T2, ap3, by omega, by omega, by go_num, I14⟩
                  case measure => simp [intOf]; omega
                · have hge : decide ((i : Int) ≥ 8) = true := decide_eq_true (by omega)
                  clear hrow hr hp I hBq Q1
                  have IX := IW
                  have hvs := IX.2.2.2.1.out
                  have hbl := View.size hvs okI (by omega)
                  have hbb : T.len * (65 + 17 * (256 - 0)) ≤ 34 * 4417 := Nat.mul_le_mul (by omega) (by omega)
                  have hpb := parse_bytes hqI (hvs.tight okI)
                  have HPB := Lib.hid hpb
                  have HRT := Lib.hid hvs.root
                  have hql : q.bytes.length ≤ 1000000 := by omega
                  clear hvs hpb hbl hbb
                  have c0 := IX.1.at_ (i := 0) rfl
                  rw [hW] at c0
                  go_wp2_with fail
                  rw [← hW]
                  clear hW c0
                  refine (pbytes_any q hqI.wf (by omega) W).mono ?_
                  rintro e w20 ⟨u20, rfl, O20, b20⟩
                  have I20 := IX.more b20
                  go_wp2_with fail
                  refine (parse_any u20 q.bytes w20 ((O20.by_).less (Nat.zero_le _))).mono ?_
                  rw [HPB.out]
                  rintro e w21 ⟨q', n', rfl, hpr, b21⟩
                  obtain ⟨rfl, rfl⟩ := hpr
                  have I21 := I20.more b21
                  obtain ⟨W22, hW22⟩ : ∃ y, y = w21.alloc (Obj.cells #[q'.val] 73) := ⟨_, rfl⟩
                  have b22 : Below w21.heap.size w21 W22 := by rw [hW22]; exact (Below.refl _ _).alloc (Nat.le_refl _) _
                  have P22 : Bk W22 w21.heap.size 73 [q'.val] := by rw [hW22]; exact Bk.new w21 _ [_]
                  have I22 := I21.more b22
                  have hrl := T.root_length
                  clear I20 I21 b20 b21 b22 O20 IX
                  go_wp2_with fail
                  rw [← hW22]
                  clear hW22
                  have zp := P22.lt
                  have zt := I22.2.1.lt
                  obtain ⟨t0, t1⟩ := cells_of2 I22.2.1
                  have p0 := P22.at_ (i := 0) rfl
                  have hpr : ∀ W : World, Calls Try.prog 40 #[.agg #[q'.val]] W fun e w' => e = .returned (A8 T.root) ∧ Below W.heap.size W w' := fun W => by
                    have := proots_any q' hqI.wf W
                    rw [HRT.out] at this
                    exact this
                  refine wp_ext (by kernel_rfl) (by kernel_rfl) ?_
                  repeat (go_big_quiet_step (first | (go_at_call 40; exact quiet_ext (fun W hW => hpr W)) | (go_at_call 23; exact quiet_ext (fun W hW => troot_any T (.pointer p2) 0 W ((I22.2.2.1.below hW).more hW.size)))))
                  refine wpQuiet_nil ?_
                  rintro w23 ⟨p23, hw23⟩
                  have Be : Below W22.heap.size W22 w23 := by rw [hw23]; exact below_ext W22 p23
                  have B23 := (I22.more Be).2.2.2.2.2.2.2
                  clear hw23 t0 t1 p0
                  go_wp2_with fail
                  go_ret
                  exact ⟨rfl, B23⟩
              · subst hs; simp at hlt
            · have IX := I
              have hvs := IX.2.2.2.1.out
              have hbl := View.size hvs okI (by omega)
              have hbb : T.len * (65 + 17 * (256 - 0)) ≤ 34 * 4417 := Nat.mul_le_mul (by omega) (by omega)
              have hpb := parse_bytes hqI (hvs.tight okI)
              have HPB := Lib.hid hpb
              have HRT := Lib.hid hvs.root
              have hql : q.bytes.length ≤ 1000000 := by omega
              clear hvs hpb hbl hbb
              have c0 := IX.1.at_ (i := 0) rfl
              go_wp2_with fail
              clear c0
              refine (pbytes_any q hqI.wf (by omega) w9).mono ?_
              rintro e w20 ⟨u20, rfl, O20, b20⟩
              have I20 := IX.more b20
              go_wp2_with fail
              refine (parse_any u20 q.bytes w20 ((O20.by_).less (Nat.zero_le _))).mono ?_
              rw [HPB.out]
              rintro e w21 ⟨q', n', rfl, hpr, b21⟩
              obtain ⟨rfl, rfl⟩ := hpr
              have I21 := I20.more b21
              obtain ⟨W22, hW22⟩ : ∃ y, y = w21.alloc (Obj.cells #[q'.val] 73) := ⟨_, rfl⟩
              have b22 : Below w21.heap.size w21 W22 := by rw [hW22]; exact (Below.refl _ _).alloc (Nat.le_refl _) _
              have P22 : Bk W22 w21.heap.size 73 [q'.val] := by rw [hW22]; exact Bk.new w21 _ [_]
              have I22 := I21.more b22
              have hrl := T.root_length
              clear I20 I21 b20 b21 b22 O20 IX
              go_wp2_with fail
              rw [← hW22]
              clear hW22
              have zp := P22.lt
              have zt := I22.2.1.lt
              obtain ⟨t0, t1⟩ := cells_of2 I22.2.1
              have p0 := P22.at_ (i := 0) rfl
              have hpr : ∀ W : World, Calls Try.prog 40 #[.agg #[q'.val]] W fun e w' => e = .returned (A8 T.root) ∧ Below W.heap.size W w' := fun W => by
                have := proots_any q' hqI.wf W
                rw [HRT.out] at this
                exact this
              refine wp_ext (by kernel_rfl) (by kernel_rfl) ?_
              repeat (go_big_quiet_step (first | (go_at_call 40; exact quiet_ext (fun W hW => hpr W)) | (go_at_call 23; exact quiet_ext (fun W hW => troot_any T (.pointer p2) 0 W ((I22.2.2.1.below hW).more hW.size)))))
              refine wpQuiet_nil ?_
              rintro w23 ⟨p23, hw23⟩
              have Be : Below W22.heap.size W22 w23 := by rw [hw23]; exact below_ext W22 p23
              have B23 := (I22.more Be).2.2.2.2.2.2.2
              clear hw23 t0 t1 p0
              go_wp2_with fail
              go_ret
              exact ⟨rfl, B23⟩
end Go.Proofs.Ytpalomkcgfalnaa
