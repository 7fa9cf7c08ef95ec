/- witanlaw09.TreePlays answers true. -/
import Derived.Test.YtpalomkcgfalnaaSame
import Derived.Test.YtpalomkcgfalnaaOwnR
import Derived.Outline
set_option linter.unusedVariables false
set_option linter.unusedSimpArgs false
namespace Go.Proofs.Ytpalomkcgfalnaa
open Go Go.RowKit Sh
def tcs (ps : List (Option Addr)) : List Value := ps.flatMap fun p => [.pointer p, .int .i64 0]
theorem length_tcs (ps : List (Option Addr)) : (tcs ps).length = ps.length * 2 := by
  induction ps with
  | nil => rfl
  | cons p ps ih => simp only [tcs, List.flatMap_cons, List.length_append, List.length_cons, List.length_nil] at ih ⊢; omega
theorem tcs_at {ps : List (Option Addr)} : ∀ {i : Nat} {p : Option Addr}, ps[i]? = some p → (tcs ps)[i * 2]? = some (.pointer p) ∧ (tcs ps)[i * 2 + 1]? = some (.int .i64 0) := by
  induction ps with
  | nil => intro i p h; simp at h
  | cons q ps ih =>
    intro i p h
    cases i with
    | zero => simp at h; subst h; exact ⟨rfl, rfl⟩
    | succ i =>
      have := ih (i := i) (p := p) (by simpa using h)
      simp only [tcs, List.flatMap_cons] at this ⊢
      rw [show (i + 1) * 2 = i * 2 + 1 + 1 by omega]
      simpa using this
/-- The block there holds cells of this type. -/
def Kd (W : World) (row : Option Nat) (T : TypeId) : Prop := ∀ g, row = some g → ∃ cur fz, W.heap[g]? = some (.cells cur T fz)
theorem kd_own {W : World} {base : Nat} {e : TypeId} {sz n : Nat} {v : Value} {xs : List Value} (h : W.ownsRow base e sz v n xs) : Kd W v.ownBlock e := by
  intro g hg
  rcases h.2 with ⟨rfl, _⟩ | ⟨g', cap, cur, rfl, _, hh, _⟩
  · cases hg
  · injection hg with hg; subst hg; exact ⟨_, _, hh⟩
theorem kd_bk {W : World} {g : Nat} {T : TypeId} {cs : List Value} (h : Bk W g T cs) : Kd W (some g) T := by
  intro g' hg; injection hg with hg; subst hg; exact ⟨_, _, h⟩
theorem Kd.ne {W : World} {row : Option Nat} {T T' : TypeId} {g : Nat} (h : Kd W row T) (h' : Kd W (some g) T') (hT : T ≠ T') : some g ≠ row := by
  intro e
  obtain ⟨c, f, h1⟩ := h g e.symm
  obtain ⟨c', f', h2⟩ := h' g rfl
  rw [h1] at h2
  injection h2 with h2
  injection h2 with _ h2
  exact hT h2
theorem At.grown {W W' : World} {B : Nat} {row : Option Nat} {T : TypeId} (hg : W.grownBy W' row) (hk : Kd W row T) (hT : T ≠ 112) : ∀ {t : Tr} {p : Value}, At W B t p → At W' B t p
  | .e, _, h => h
  | .lf _ _, _, ⟨g', h1, h2, h3, h4, h5⟩ => ⟨g', h1, h2, h3, h4, h5.grown hg (hk.ne (kd_bk h5) hT)⟩
  | .nd _ _, _, ⟨g', pl, pr, h1, h2, h3, h4, h5⟩ => ⟨g', pl, pr, h1, h2, h3.grown hg (hk.ne (kd_bk h3) hT), At.grown hg hk hT h4, At.grown hg hk hT h5⟩
/-- Pairs in a block of pairs. -/
def PsK (W : World) (v : Value) (l : List Pr) : Prop := Ps W 0 W.heap.size v l ∧ Kd W v.ownBlock 36
theorem PsK.nil (W : World) : PsK W (.slice none 0 0) [] := ⟨Ps.nil _ _ _, fun g h => by cases h⟩
theorem PsK.ext {W W' : World} {v : Value} {l : List Pr} (h : PsK W v l) (hb : Below W.heap.size W W') : PsK W' v l := by
  refine ⟨(h.1.below hb).more hb.size, fun g hg => ?_⟩
  obtain ⟨c, f, h1⟩ := h.2 g hg
  exact ⟨c, f, (hb.block g (Array.getElem?_eq_some_iff.1 h1).1).trans h1⟩
theorem PsK.grown {W W' : World} {v : Value} {l : List Pr} {row : Option Nat} {T : TypeId} (h : PsK W v l) (hg : W.grownBy W' row) (hk : Kd W row T) (hT : T ≠ 36) : PsK W' v l := by
  have hsz := hg.size
  have hne : ∀ g, v.ownBlock = some g → some g ≠ row := fun g e => hk.ne (fun g' e' => h.2 g' (by rw [e]; exact e')) hT
  have hblk : ∀ g, v.ownBlock = some g → W'.heap[g]? = W.heap[g]? := fun g e => by
    obtain ⟨c, f, h1⟩ := h.2 g e
    exact hg.block g (Array.getElem?_eq_some_iff.1 h1).1 (hne g e)
  refine ⟨?_, fun g e => by obtain ⟨c, f, h1⟩ := h.2 g e; exact ⟨c, f, (hblk g e).trans h1⟩⟩
  obtain ⟨h0, A, c, h1, h2, h3, h4⟩ := h.1
  refine ⟨h0, A, c, h1, h2, h3, ?_⟩
  rcases h4 with h4 | ⟨g, o, rfl, hl, hb, hc⟩
  · exact .inl h4
  · exact .inr ⟨g, o, rfl, hl, by omega, fun j u hj => (World.cell?_of_block (hblk g (by rw [h1]; rfl))).trans (hc j u hj)⟩
theorem OwnP.psk {W : World} {base : Nat} {v : Value} {l : List Pr} (h : OwnP W base v l) : PsK W v l := ⟨h.ps.less (Nat.zero_le _), kd_own h.2⟩
theorem grown_set2 (W : World) (g : Nat) (a b : Value) : W.grownBy ((W.setCell ⟨g, 0, none⟩ a).setCell ⟨g, 1, none⟩ b) (some g) :=
  ⟨rfl, rfl, rfl, by simp, fun k _ hk => (Below.heap_setCell _ ⟨g, 1, none⟩ _ k (fun e => hk (by rw [e]))).trans (Below.heap_setCell _ ⟨g, 0, none⟩ _ k (fun e => hk (by rw [e])))⟩
theorem grown_alloc (W : World) (o : Obj) (row : Option Nat) : W.grownBy (W.alloc o) row := ⟨rfl, rfl, rfl, by simp, fun k hk _ => Below.heap_alloc _ _ _ hk⟩
/-- What is read but not changed in a round. -/
def PC (w : World) (L : List Pr) (i : Nat) (pT : Option Addr) (ps : List (Option Addr)) (vs : List Value) (u6 : Value) (qb : Nat) (q : Pr) (X : World) : Prop :=
  At X X.heap.size (puts (L.take i) .e) (.pointer pT) ∧ PsK X u6 (puts (L.take i) .e).pairs ∧ (∀ (j : Nat) p, ps[j]? = some p → At X X.heap.size (puts (L.take j) .e) (.pointer p)) ∧ (∀ (j : Nat) x, vs[j]? = some x → PsK X x (puts (L.take j) .e).pairs) ∧ Bk X qb 36 (c8 (pb q))
theorem PC.ext {w : World} {L : List Pr} {i : Nat} {pT : Option Addr} {ps : List (Option Addr)} {vs : List Value} {u6 : Value} {qb : Nat} {q : Pr} {X X' : World} (h : PC w L i pT ps vs u6 qb q X) (hb : Below X.heap.size X X') : PC w L i pT ps vs u6 qb q X' :=
  ⟨(h.1.below hb).more hb.size, h.2.1.ext hb, fun j p hj => ((h.2.2.1 j p hj).below hb).more hb.size, fun j x hj => (h.2.2.2.1 j x hj).ext hb, h.2.2.2.2.below hb h.2.2.2.2.lt⟩
theorem PC.grown {w : World} {L : List Pr} {i : Nat} {pT : Option Addr} {ps : List (Option Addr)} {vs : List Value} {u6 : Value} {qb : Nat} {q : Pr} {X X' : World} {row : Option Nat} {T : TypeId} (h : PC w L i pT ps vs u6 qb q X) (hg : X.grownBy X' row) (hk : Kd X row T) (h1 : T ≠ 112) (h2 : T ≠ 36) : PC w L i pT ps vs u6 qb q X' :=
  ⟨(h.1.grown hg hk h1).more hg.size, h.2.1.grown hg hk h2, fun j p hj => ((h.2.2.1 j p hj).grown hg hk h1).more hg.size, fun j x hj => (h.2.2.2.1 j x hj).grown hg hk h2, h.2.2.2.2.grown hg (hk.ne (kd_bk h.2.2.2.2) h2)⟩
/-- What stands between two rounds: the tree, its pairs; the elder ones. -/
def PlayI (w : World) (gT : Nat) (L : List Pr) (i : Nat) (u6 u7 u8 : Value) (W : World) : Prop :=
  ∃ (pT : Option Addr) (ps : List (Option Addr)) (vs : List Value), Okt (puts (L.take i) .e) ∧ (puts (L.take i) .e).len ≤ i ∧ PsK W u6 (puts (L.take i) .e).pairs ∧
    At W W.heap.size (puts (L.take i) .e) (.pointer pT) ∧ Bk W gT 40 [.pointer pT, .int .i64 0] ∧ ps.length = i ∧ vs.length = i ∧
    W.ownsRow (gT + 1) 40 2 u7 i (tcs ps) ∧ W.ownsRow (gT + 1) 34 1 u8 i vs ∧ Apart u7 u8 ∧
    (∀ (j : Nat) p, ps[j]? = some p → At W W.heap.size (puts (L.take j) .e) (.pointer p)) ∧ (∀ (j : Nat) x, vs[j]? = some x → PsK W x (puts (L.take j) .e).pairs) ∧ Below w.heap.size w W
theorem PlayI.ext {w : World} {gT : Nat} {L : List Pr} {i : Nat} {u6 u7 u8 : Value} {W W' : World} (h : PlayI w gT L i u6 u7 u8 W) (hb : Below W.heap.size W W') : PlayI w gT L i u6 u7 u8 W' := by
  obtain ⟨pT, ps, vs, h1, h2, h3, h4, h5, h6, h7, h8, h9, h10, h11, h12, h13⟩ := h
  exact ⟨pT, ps, vs, h1, h2, h3.ext hb, (h4.below hb).more hb.size, h5.below hb h5.lt, h6, h7, ownsRow_below h8 hb (Nat.le_refl _), ownsRow_below h9 hb (Nat.le_refl _), h10,
    fun j p hj => ((h11 j p hj).below hb).more hb.size, fun j x hj => (h12 j x hj).ext hb, below_two h13 hb h13.size⟩
theorem getRes_form {t : Tr} {k : List UInt8} (ok : Okt t) : ∃ (vv : List UInt8) (b : Bool), getRes (t.look k 0) = .tuple #[A8 vv, .bool b] ∧ vv.length = 32 := by
  cases h : t.look k 0 with
  | none => exact ⟨z8 32, false, rfl, by simp⟩
  | some v => exact ⟨v, true, rfl, (ok.rise.1 _ ((look_some ok).1 h)).2⟩
theorem apart_nil (v : Value) : Apart (.slice none 0 0) v := fun g h => by cases h
theorem own_new (W : World) (T : TypeId) (cs : List Value) {sz N : Nat} (hs : cs.length = sz) (hN : W.heap.size = N) : (W.alloc (.cells cs.toArray T)).ownsRow N T sz (.slice (some ⟨N, 0, none⟩) 1 1) 1 cs := by
  subst hN hs
  refine ⟨by simp, .inr ⟨_, 1, cs.toArray, rfl, Nat.le_refl _, Bk.new W T cs, Nat.le_refl _, by simp [maxLen], by simp, by simp⟩⟩
theorem flat_take {H : List (List UInt8)} (h : ∀ k ∈ H, k.length = 32) : ∀ (m : Nat), H.flatten.take (m * 32) = (H.take m).flatten := by
  induction H with
  | nil => intro m; simp
  | cons k H ih =>
    intro m
    cases m with
    | zero => simp
    | succ m =>
      have hk := h k (by simp)
      simp only [List.flatten_cons, List.take_succ_cons]
      rw [show (m + 1) * 32 = k.length + m * 32 by omega, List.take_length_add_append, ih (fun q hq => h q (by simp [hq]))]
theorem hs_own {W : World} {base : Nat} {T : TypeId} {v : Value} {n : Nat} {ks : List (List UInt8)} (h : W.ownsRow base T 32 v n (c8 ks.flatten)) (hn : ks.length = n) (hk : ∀ k ∈ ks, k.length = 32) : Hs W base W.heap.size v ks := by
  obtain ⟨A, c, rfl, h1, h2⟩ := ownsRow_form h
  subst hn
  exact ⟨hk, A, c, rfl, h1, by unfold maxLen; exact h2, ownsRow_rd h⟩
theorem ownsRow_far {w w' : World} {base : Nat} {e : TypeId} {sz n : Nat} {v : Value} {xs : List Value} {g : Nat} (h : w.ownsRow base e sz v n xs) (hg : w.grownBy w' (some g)) (hlt : g < base) : w'.ownsRow base e sz v n xs := by
  refine World.ownsRow.kept h hg ?_
  cases hv : v.ownBlock with
  | none => exact .inl rfl
  | some k => exact .inr fun e => by injection e with e; have := (h.lt k hv).1; omega
theorem at_app {α : Type} {l : List α} {x y : α} {j n : Nat} (hn : l.length = n) (h : (l ++ [x])[j]? = some y) : (j < n ∧ l[j]? = some y) ∨ (j = n ∧ y = x) := by
  rcases Nat.lt_or_ge j l.length with h1 | h1
  · rw [List.getElem?_append_left h1] at h
    exact .inl ⟨by omega, h⟩
  · rw [List.getElem?_append_right h1] at h
    have h2 := (List.getElem?_eq_some_iff.1 h).1
    simp at h2
    have : j = n := by omega
    subst this
    rw [hn] at h
    simp at h
    exact .inr ⟨rfl, h.symm⟩
theorem rd_new (W : World) (T : TypeId) (cs : List Value) {N : Nat} (hN : W.heap.size = N) : Rd (W.alloc (.cells cs.toArray T)) 0 (N + 1) (some ⟨N, 0, none⟩) cs := by
  subst hN
  exact .inr ⟨_, 0, rfl, Nat.zero_le _, by omega, fun j u hj => by rw [Nat.zero_add]; exact (Bk.new W T cs).at_ hj⟩
set_option maxRecDepth 100000 in
set_option maxHeartbeats 8000000 in
theorem treePlays_any (v : Value) (L : List Pr) (v2 : Value) (H : List (List UInt8)) (w : World) (hv : Ps w 0 w.heap.size v L) (hH : Hs w 0 w.heap.size v2 H) :
    Calls Try.prog 8 #[v, v2] w fun e w' => e = .returned (.bool true) ∧ Below w.heap.size w w' := by
  obtain ⟨A, c, hv1, hc1, hc2⟩ := hv.form
  have hsub := hv.sub
  have hlok := hv.1
  subst hv1
  obtain ⟨A2, c2, hv2, hc21, hc22⟩ := hH.form
  have hHok := hH.1
  subst hv2
  go_enter Try.func8, Try.ntmps8
  go_wp2_with fail
  refine (first09 w).mono ?_
  rintro e w0 ⟨rfl, B0⟩
  go_wp2_with fail
  obtain ⟨w1, hw1⟩ : ∃ x, x = w0.alloc (Obj.cells #[.pointer none, .int .i64 0] 40) := ⟨_, rfl⟩
  rw [← hw1]
  have zT0 : w.heap.size ≤ w0.heap.size := B0.size
  have hI1 : PlayI w w0.heap.size L 0 (.slice none 0 0) (.slice none 0 0) (.slice none 0 0) w1 := by
    refine ⟨none, [], [], trivial, by simp [puts, Tr.len], PsK.nil _, rfl, ?_, rfl, rfl, World.ownsRow_nil _ _ _ _, World.ownsRow_nil _ _ _ _, apart_nil _, fun j p hj => by simp at hj, fun j x hj => by simp at hj, ?_⟩
    · rw [hw1]; exact Bk.new w0 _ [.pointer none, .int .i64 0]
    · rw [hw1]; exact B0.alloc B0.size _
  clear hw1 B0
  generalize w0.heap.size = gT at *
  go_loopw [6, 7, 8, 22] (fun u6 u7 u8 t wr => ∃ i : Nat, i ≤ L.length ∧ i ≤ 30 ∧ t = .int .i64 (i : Int) ∧ PlayI w gT L i u6 u7 u8 wr) (fun _ _ _ t _ => L.length - (intOf t).toNat)
  case atStart => exact ⟨0, by omega, by omega, rfl, hI1⟩
  case round =>
    clear hI1
    obtain ⟨i, hi, hi30, rfl, hI⟩ := hrel
    by_cases hlt : i < L.length
    · obtain ⟨q, hp⟩ : ∃ p, L[i]? = some p := ⟨_, List.getElem?_eq_getElem hlt⟩
      have hqok : PrOk q := hlok q (List.mem_of_getElem? hp)
      obtain ⟨g, o, c', hs⟩ := hsub
      rcases hs with ⟨hrow, _, hg, hA, _, _⟩ | hs
      · injection hA with hA _ hA3
        subst hA hA3
        have Bw : Below w.heap.size w wr := by obtain ⟨_, _, _, _, _, _, _, _, _, _, _, _, _, _, _, h⟩ := hI; exact h
        have hr := (hrow i q hp).1
        have hrw : rowAt wr ⟨g, o + i * 64, none⟩ 64 = some (c8 (pb q)) := (rowAt_below Bw hg).trans hr
        have htk := take_step hp
        have hst : puts (L.take (i + 1)) .e = put1 (puts (L.take i) .e) q.1 q.2 := by rw [htk, puts_app]
        have Hst := Lib.hid hst
        clear hr hp htk hst
        have hq1 := hqok.1
        have hq2 := hqok.2
        have hqlen := hqok.len
        obtain ⟨W, hW⟩ : ∃ y, y = putAt (wr.alloc (Obj.cells (c8 (z8 64)).toArray 36)) ⟨wr.heap.size, 0, none⟩ (c8 (pb q)) := ⟨_, rfl⟩
        have hBq : Below wr.heap.size wr W := by rw [hW]; exact below_putAt ((Below.refl _ _).alloc (Nat.le_refl _) _) (Nat.le_refl _) _
        have Q1 : Bk W wr.heap.size 36 (c8 (pb q)) := by rw [hW]; exact Bk.fresh wr _ (by simp [hqlen])
        have hWI := hI.ext hBq
        have hWs : W.heap.size = wr.heap.size + 1 := by rw [hW]; simp
        by_cases h30 : i < 30
        · have hge : decide ((30 : Int) ≤ (i : Int)) = false := decide_eq_false (by omega)
          obtain ⟨pT, ps, vs, okT, hlT, hPs, hAt, KT, hpl, hvl, O7, O8, hap, hps, hvs, Bw2⟩ := hWI
          obtain ⟨A7, c7, e7, _, _⟩ := ownsRow_form O7
          obtain ⟨A8', c8', e8, _, _⟩ := ownsRow_form O8
          obtain ⟨A6, c6, e6, _, _⟩ := hPs.1.form
          subst e7 e8 e6
          have hpc : PC w L i pT ps vs _ wr.heap.size q W := ⟨hAt, hPs, hps, hvs, Q1⟩
          have zT := KT.lt
          have t0 : W.cell? ⟨gT, 0, none⟩ = some (.pointer pT) := KT.at_ rfl
          have t1 : W.cell? ⟨gT, 1, none⟩ = some (.int .i64 0) := KT.at_ rfl
          have hN0 : W.heap.size = wr.heap.size + 1 := hWs
          have hrd1 := rd_new W 40 [.pointer pT, .int .i64 0] hN0
          have O7a := O7.alloc (Obj.cells ([Value.pointer pT, .int .i64 0] : List Value).toArray 40)
          have hba : gT + 1 ≤ (W.alloc (Obj.cells ([Value.pointer pT, .int .i64 0] : List Value).toArray 40)).heap.size := by simp; omega
          have hpcA := hpc.grown (grown_alloc W (Obj.cells ([Value.pointer pT, .int .i64 0] : List Value).toArray 40) none) (T := 40) (fun g h => by cases h) (by decide) (by decide)
          have O8a := O8.alloc (Obj.cells ([Value.pointer pT, .int .i64 0] : List Value).toArray 40)
          have KTa := KT.alloc (Obj.cells ([Value.pointer pT, .int .i64 0] : List Value).toArray 40)
          have hBa : Below w.heap.size w (W.alloc (Obj.cells ([Value.pointer pT, .int .i64 0] : List Value).toArray 40)) := Bw2.alloc Bw2.size _
          clear hps hvs hAt hPs Q1 hpc hBq hI
          rw [hW] at hrd1 O7a hba O8a hpcA KTa t0 t1 hBa
          go_wp2_with (first
            | (at_builtin; refine appR 51 (.agg #[.pointer none, .int .i64 0]) 16 Try.underlying51 infoT rfl (by decide) (by decide) rfl _ _ rfl rfl O7a _ 1 1 rfl [.pointer pT, .int .i64 0] rfl 0 _ hrd1 (by simp [Value.oneCell']) (by omega) hba ?_; intro A9 c9 w3 hc91 hc92 hO9 hB9 hg9 hat9; have hO8b := ownsRow_apart O8a hap hg9; have hap9 := ownsRow_newApart O8a hap (hat9.imp_right .inl); have hpc9 := hpcA.grown hg9 (kd_own O7a) (by decide) (by decide); have KT9 := KTa.below hB9 (Nat.lt_succ_self _); have hB9w := hBa.trans (hB9.mono (B' := w.heap.size) (by omega)); have hrd2 := rd_new w3 34 [Value.slice A6 (puts (List.take i L) Tr.e).pairs.length c6] rfl; have hO8c := hO8b.alloc (Obj.cells ([Value.slice A6 (puts (List.take i L) Tr.e).pairs.length c6] : List Value).toArray 34); have hbb : gT + 1 ≤ (w3.alloc (Obj.cells ([Value.slice A6 (puts (List.take i L) Tr.e).pairs.length c6] : List Value).toArray 34)).heap.size := (by have := hB9.size; simp; omega))
            | (at_builtin; refine appR 52 (.slice none 0 0) 24 Try.underlying52 infoSP rfl (by decide) (by decide) rfl _ _ rfl rfl hO8c _ 1 1 rfl [Value.slice A6 (puts (List.take i L) Tr.e).pairs.length c6] rfl 0 _ hrd2 (by simp [Value.oneCell']) (by omega) hbb ?_; intro A10 c10 w4 hc101 hc102 hO10 hB10 hg10 hat10; have hO9b := ownsRow_apart (hO9.alloc (Obj.cells ([Value.slice A6 (puts (List.take i L) Tr.e).pairs.length c6] : List Value).toArray 34)) hap9.symm hg10; have hpc10 := (hpc9.grown (grown_alloc w3 (Obj.cells ([Value.slice A6 (puts (List.take i L) Tr.e).pairs.length c6] : List Value).toArray 34) none) (T := 40) (fun g h => by cases h) (by decide) (by decide)).grown hg10 (kd_own hO8c) (by decide) (by decide); have KT10 := (KT9.alloc (Obj.cells ([Value.slice A6 (puts (List.take i L) Tr.e).pairs.length c6] : List Value).toArray 34)).below hB10 (Nat.lt_succ_self _); have hap10 := ownsRow_newApart hO9 hap9.symm (hat10.imp_right (fun h => .inr (h.trans (by simp)))); have t2 : w4.cell? ⟨gT, 0, none⟩ = some (.pointer pT) := KT10.at_ rfl; have t3 : w4.cell? ⟨gT, 1, none⟩ = some (.int .i64 0) := KT10.at_ rfl; have qk4 := pair_key hpc10.2.2.2.2 hqok; have qv4 := pair_val hpc10.2.2.2.2 hqok))
          have hlT30 : (puts (L.take i) .e).len ≤ 30 := by omega
          obtain ⟨T, hT⟩ : ∃ T, T = puts (L.take i) .e := ⟨_, rfl⟩
          have hAt10 := hpc10.1
          rw [← hT] at okT hlT hlT30 hAt10
          have zT4 := KT10.lt
          have zw4 : w.heap.size ≤ w4.heap.size := by omega
          have Bw4 : Below w.heap.size w w4 := (hB9w.alloc hB9w.size _).trans (hB10.mono (B' := w.heap.size) (by omega))
          refine (tput_any q.1 q.2 hq1 hq2 0 T P0 (.pointer pT) w4 (by omega) (fun i hi => by omega) okT (by omega) hAt10).mono ?_
          rintro e w5 ⟨qp, rfl, hat5, h5⟩
          obtain ⟨ap, rfl⟩ := hat5.form
          change At w5 w5.heap.size (put1 T q.1 q.2) _ at hat5
          rw [hT, ← Hst.out] at hat5
          have hpc5 := hpc10.ext h5
          have KT5 := KT10.below h5 zT4
          have O9c := ownsRow_below hO9b h5 (Nat.le_refl _)
          have O10c := ownsRow_below hO10 h5 (Nat.le_refl _)
          have Bw5 := below_two Bw4 h5 Bw4.size
          have f0 := KT5.frozen 0
          have f1 := KT5.frozen 1
          have z0 := KT5.at_ (i := 0) rfl
          have z1 := KT5.at_ (i := 1) rfl
          have hgr := grown_set2 w5 gT (.pointer ap) (.int .i64 0)
          have hpc6 := hpc5.grown hgr (kd_bk KT5) (by decide) (by decide)
          have qa6 := pair_all hpc6.2.2.2.2 hqok
          clear h5 hat9 hat10 hB10 hg10 hB9 hg9 hO9 O7a O8a hpcA KTa hBa hO8b hpc9 KT9 hB9w hO8c hO9b hO10 hpc10 KT10 t2 t3 qk4 qv4 hap9 hAt10 hpc5 hrd1 hrd2 hba hbb hW t0 t1 hWs O7 O8 KT hap Bw Bw2 hN0 hrw
          go_wp2_with fail
          obtain ⟨w6, hw6⟩ : ∃ x, x = (w5.setCell ⟨gT, 0, none⟩ (.pointer ap)).setCell ⟨gT, 1, none⟩ (.int .i64 0) := ⟨_, rfl⟩
          rw [← hw6] at hgr hpc6 ⊢
          have KT6 : Bk w6 gT 40 [.pointer ap, .int .i64 0] := by rw [hw6]; exact (KT5.set_ 0 (.pointer ap)).set_ 1 (.int .i64 0)
          have hat6 : At w6 w6.heap.size (puts (L.take (i + 1)) .e) (.pointer ap) := (hat5.grown hgr (kd_bk KT5) (by decide)).more hgr.size
          have O9d := ownsRow_far O9c hgr (Nat.lt_succ_self _)
          have O10d := ownsRow_far O10c hgr (Nat.lt_succ_self _)
          have Bw6 : Below w.heap.size w w6 := by rw [hw6]; exact (Bw5.setCell (p := ⟨gT, 0, none⟩) zT0 _).setCell (p := ⟨gT, 1, none⟩) zT0 _
          clear hw6 qa6 f0 f1 z0 z1 KT5 hat5 O9c O10c Bw5
          have hPs6 := hpc6.2.1.1
          rw [← hT] at hPs6
          have hTl : T.pairs.length = (puts (L.take i) .e).pairs.length := by rw [hT]
          rw [hTl] at hPs6
          refine (refput_any q.1 q.2 hq1 hq2 T P0 okT (by omega) _ w6 hPs6).mono ?_
          rintro e w7 ⟨u, rfl, hO7, h7⟩
          change OwnP w7 w6.heap.size u (put1 T q.1 q.2).pairs at hO7
          rw [hT, ← Hst.out] at hO7
          have okT7 : Okt (puts (L.take (i + 1)) .e) := by rw [Hst.out, ← hT]; exact okT.put hq1 hq2
          have hlT7 : (puts (L.take (i + 1)) .e).len ≤ i + 1 := by rw [Hst.out, ← hT]; have := len_put1 (v := q.2) okT hq1; omega
          have hpc7 := hpc6.ext h7
          have hI7 : PlayI w gT L (i + 1) u (.slice A9 (i + 1) c9) (.slice A10 (i + 1) c10) w7 := by
            refine ⟨ap, ps ++ [pT], vs ++ [_], okT7, hlT7, hO7.psk, (hat6.below h7).more h7.size, KT6.below h7 KT6.lt, by simp [hpl], by simp [hvl], ?_, ownsRow_below O10d h7 (Nat.le_refl _), hap10.symm, fun j p hj => ?_, fun j x hj => ?_, below_two Bw6 h7 Bw6.size⟩
            · have := ownsRow_below O9d h7 (Nat.le_refl _)
              simpa [tcs] using this
            · rcases at_app hpl hj with ⟨_, h⟩ | ⟨rfl, rfl⟩
              · exact hpc7.2.2.1 j p h
              · exact hpc7.1
            · rcases at_app hvl hj with ⟨_, h⟩ | ⟨rfl, rfl⟩
              · exact hpc7.2.2.2.1 j x h
              · exact hpc7.2.1
          have Q7 := hpc7.2.2.2.2
          clear h7 hpc7 hpc6 hO7 okT7 hlT7 hat6 KT6 O9d O10d hPs6 hap10 hgr hTl
          go_wp2_with fail
          obtain ⟨m, hm⟩ : ∃ m, m = min H.length 5 := ⟨_, rfl⟩
          have hm1 : m ≤ H.length := by omega
          have hm5 : m ≤ 5 := by omega
          have hmin : minI (H.length : Int) 5 = (m : Int) := by unfold minI; split <;> omega
          clear hm
          have Bw7 : Below w.heap.size w w7 := by obtain ⟨_, _, _, _, _, _, _, _, _, _, _, _, _, _, _, h⟩ := hI7; exact h
          have zq7 := Q7.lt
          refine wp_hoist (A := ?AH) (fun W => Below w7.heap.size w7 W) [0, 1, 3, 4, 5, 6, 7, 10] [2, 8, 9] (by kernel_rfl) (by kernel_rfl) (by kernel_rfl) (by kernel_rfl) rfl rfl (by kernel_rfl) (by kernel_rfl) ?rS (fun W hW => ?rh) (fun hS => ?rt)
          case rS => exact (Below.refl _ _).drew
          case rh =>
            have rqk := pair_key (Q7.below hW zq7) hqok
            simp only [pick, List.getElem?_cons_zero, List.getElem?_cons_succ]
            repeat (go_big_quiet_step (fail))
            refine wpQuiet_nil ?_
            rfl
          case rt =>
            simp only [pick, List.getElem?_cons_zero, List.getElem?_cons_succ]
            refine wpTail_step (by rfl) (fun Q' hQ' => ?_)
            go_wp2_with fail
            have hb8 : Below w7.heap.size w7 (w7.drew.alloc (Obj.cells (c8 q.1).toArray 25)) := (Below.refl _ _).drew.alloc (Nat.le_refl _) _
            refine hQ' _ _ hb8 ?_
            clear hQ'
            have hown := own_new w7.drew 25 (c8 q.1) (sz := 32) (N := w7.heap.size) (by simp [hq1]) rfl
            have hrdH : Rd (w7.drew.alloc (Obj.cells (c8 q.1).toArray 25)) 0 w.heap.size A2 (c8 (H.take m).flatten) := by
              obtain ⟨_, A', c', e, _, _, hr⟩ := hH
              injection e with e _ _
              subst e
              have h1 := (hr.below (Bw7.trans (hb8.mono (B' := w.heap.size) Bw7.size))).take (m * 32)
              have h2 : (c8 H.flatten).take (m * 32) = c8 (H.take m).flatten := by rw [← flat_take hHok]; simp [c8, List.map_take]
              rwa [h2] at h1
            have hlys : (c8 (H.take m).flatten).length = m * 32 := by
              rw [length_c8, length_hflat (fun k hk => hHok k (List.mem_of_mem_take hk))]
              simp [Nat.min_eq_left hm1]
            have hone : ∀ u ∈ c8 (H.take m).flatten, u.oneCell' = true := by intro u hu; obtain ⟨x, _, rfl⟩ := List.mem_map.1 hu; rfl
            refine wpTail_step (by rfl) (fun Q' hQ' => ?_)
            go_wp2_with (at_builtin; refine appR 50 (A8 (z8 32)) 32 Try.underlying50 infoH (by simp [A8, Value.cells]) (by decide) (by decide) rfl _ _ rfl rfl hown A2 m c2 rfl _ hlys 0 _ hrdH hone (by omega) (by simp) ?_; intro A11 c11 w9 hc111 hc112 hO11 hB11 hg11 hat11; obtain ⟨kn, hkn⟩ : ∃ kn, kn = 1 + m := ⟨_, rfl⟩; rw [← hkn] at hc111 hO11 ⊢)
            have hB9 : Below w7.heap.size w7 w9 := hb8.trans hB11
            refine hQ' _ _ hB9 ?_
            clear hQ'
            refine wpTail_step (by rfl) (fun Q' hQ' => ?_)
            go_wp2_with fail
            refine hQ' _ _ hB9 ?_
            clear hQ'
            refine wpTail_nil ?_
            obtain ⟨ks, hks⟩ : ∃ ks, ks = q.1 :: H.take m := ⟨_, rfl⟩
            have hksl : ks.length = kn := by rw [hks, hkn]; simp; omega
            have hks32 : ∀ k ∈ ks, k.length = 32 := by
              intro k hk
              rw [hks] at hk
              rcases List.mem_cons.1 hk with rfl | hk
              · exact hq1
              · exact hHok k (List.mem_of_mem_take hk)
            have hHs : Hs w9 w7.heap.size w9.heap.size (.slice A11 kn c11) ks := by
              refine hs_own (T := 25) ?_ hksl hks32
              have e : c8 ks.flatten = c8 q.1 ++ c8 (H.take m).flatten := by rw [hks]; simp [c8]
              rw [e]
              exact hO11
            have hI9 := hI7.ext hB9
            clear hks hO11 hB11 hg11 hat11 hown hrdH hlys hone hb8 hS hmin hI7 Q7
            go_wp2_with fail
            go_loopw [56] (fun t wr2 => ∃ j : Nat, j ≤ kn ∧ t = .int .i64 (j : Int) ∧ Below w9.heap.size w9 wr2) (fun t _ => kn - (intOf t).toNat)
            case atStart => exact ⟨0, by omega, rfl, Below.refl _ _⟩
            case round =>
              obtain ⟨j, hj, rfl, hbr⟩ := hrel
              have hIr := hI9.ext hbr
              by_cases hjl : j < kn
              · obtain ⟨k, hkj⟩ : ∃ k, ks[j]? = some k := ⟨_, List.getElem?_eq_getElem (by omega)⟩
                have hk := hks32 k (List.mem_of_getElem? hkj)
                obtain ⟨g2, o2, c2', hs2⟩ := hHs.row
                rcases hs2 with ⟨hrow2, _, hg2, hA2, _, _⟩ | hs2
                · injection hA2 with hA2 _ hA3
                  subst hA2 hA3
                  have hrk : rowAt _ ⟨g2, o2 + j * 32, none⟩ 32 = some (c8 k) := (rowAt_below hbr hg2).trans (hrow2 j k hkj)
                  obtain ⟨pT2, ps2, vs2, okT2, hlT2, hPs2, hAt2, KT2, -, -, -, -, -, -, -, Bw12⟩ := hIr
                  obtain ⟨vv, bb, hres, hvv⟩ := getRes_form (k := k) okT2
                  have Hres := Lib.hid hres
                  clear hres
                  generalize puts (L.take (i + 1)) .e = T2 at *
                  have zT2 := KT2.lt
                  obtain ⟨W12, hW12⟩ : ∃ y, y = putAt (wr.alloc (Obj.cells (c8 (z8 32)).toArray 25)) ⟨wr.heap.size, 0, none⟩ (c8 k) := ⟨_, rfl⟩
                  have hb12 : Below wr.heap.size wr W12 := by rw [hW12]; exact below_putAt ((Below.refl _ _).alloc (Nat.le_refl _) _) (Nat.le_refl _) _
                  have K12 : Bk W12 wr.heap.size 25 (c8 k) := by rw [hW12]; exact Bk.fresh wr _ (by simp [hk])
                  have KT12 := KT2.below hb12 zT2
                  have hAt12 := (hAt2.below hb12).more hb12.size
                  have hPs12 := hPs2.ext hb12
                  have B12 := hbr.trans (hb12.mono (B' := w9.heap.size) hbr.size)
                  have t0 : W12.cell? ⟨gT, 0, none⟩ = some (.pointer pT2) := KT12.at_ rfl
                  have t1 : W12.cell? ⟨gT, 1, none⟩ = some (.int .i64 0) := KT12.at_ rfl
                  have rk12 := K12.rows
                  rw [length_c8, hk] at rk12
                  rw [hW12] at t0 t1 rk12
                  clear hI9 hb12 KT2 hAt2 hPs2 hHs
                  go_wp2_with fail
                  rw [← hW12]
                  clear hW12 t0 t1 rk12 hrk
                  refine (tget_any k hk 0 T2 P0 (.pointer pT2) W12 (by omega) okT2 hAt12).mono ?_
                  rintro e w13 ⟨rfl, h13⟩
                  rw [Hres.out]
                  have K13 := K12.below h13 K12.lt
                  have hPs13 := hPs12.ext h13
                  have B13 := B12.trans (h13.mono (B' := w9.heap.size) B12.size)
                  obtain ⟨W14, hW14⟩ : ∃ y, y = putAt (w13.alloc (Obj.cells (c8 (z8 32)).toArray 25)) ⟨w13.heap.size, 0, none⟩ (c8 vv) := ⟨_, rfl⟩
                  have hb14 : Below w13.heap.size w13 W14 := by rw [hW14]; exact below_putAt ((Below.refl _ _).alloc (Nat.le_refl _) _) (Nat.le_refl _) _
                  have V14 : Bk W14 w13.heap.size 25 (c8 vv) := by rw [hW14]; exact Bk.fresh w13 _ (by simp [hvv])
                  have K14 := K13.below hb14 K13.lt
                  have hPs14 := hPs13.ext hb14
                  have B14 := B13.trans (hb14.mono (B' := w9.heap.size) B13.size)
                  have rk14 := K14.rows
                  rw [length_c8, hk] at rk14
                  rw [hW14] at rk14
                  clear h13 hb14 K12 hPs12 hAt12 KT12 B12 K13 hPs13 B13
                  go_wp2_with fail
                  rw [← hW14]
                  clear hW14 rk14
                  refine (refget_any k hk T2 P0 okT2 u W14 hPs14.1).mono ?_
                  rintro e w15 ⟨rfl, h15⟩
                  rw [Hres.out]
                  have V15 := V14.below h15 V14.lt
                  have B15 := B14.trans (h15.mono (B' := w9.heap.size) B14.size)
                  obtain ⟨W16, hW16⟩ : ∃ y, y = putAt (w15.alloc (Obj.cells (c8 (z8 32)).toArray 25)) ⟨w15.heap.size, 0, none⟩ (c8 vv) := ⟨_, rfl⟩
                  have hb16 : Below w15.heap.size w15 W16 := by rw [hW16]; exact below_putAt ((Below.refl _ _).alloc (Nat.le_refl _) _) (Nat.le_refl _) _
                  have U16 : Bk W16 w15.heap.size 25 (c8 vv) := by rw [hW16]; exact Bk.fresh w15 _ (by simp [hvv])
                  have V16 := V15.below hb16 V15.lt
                  have B16 := B15.trans (hb16.mono (B' := w9.heap.size) B15.size)
                  have r13 := V16.rows
                  have r15 := U16.rows
                  rw [length_c8, hvv] at r13 r15
                  rw [hW16] at r13 r15
                  clear h15 hb16 V14 K14 hPs14 B14 V15 B15
                  go_wp2_with fail
                  rw [← hW16]
                  go_roundw
                  case rel => exact ⟨j + 1, by omega, by go_num, B16⟩
                  case measure => simp [intOf]; omega
                · subst hs2; simp at hksl; omega
              · obtain rfl : j = kn := by omega
                go_wp2_with fail
                go_roundw
                case rel => exact ⟨i + 1, by omega, by omega, by go_num, hIr⟩
                case measure => simp [intOf]; omega
        ·
          have hge : decide ((30 : Int) ≤ (i : Int)) = true := decide_eq_true (by omega)
          have hIX := hWI
          clear hWI hI Q1 hBq
          obtain ⟨pT, ps, vs, okT, hlT, hPs, hAt, KT, hpl, hvl, O7, O8, hap, hps, hvs, Bw2⟩ := hIX
          obtain ⟨A7, c7, e7, hc71, hc72⟩ := ownsRow_form O7
          obtain ⟨A8', c8', e8, hc81, hc82⟩ := ownsRow_form O8
          subst e7 e8
          have hrd7 := ownsRow_rd O7
          have hrd8 := ownsRow_rd O8
          have zT := KT.lt
          clear hap O7 O8
          go_wp2_with fail
          rw [← hW]
          go_loopw [84] (fun t wr2 => ∃ j : Nat, j ≤ i ∧ t = .int .i64 (j : Int) ∧ Below W.heap.size W wr2) (fun t _ => i - (intOf t).toNat)
          case atStart => exact ⟨0, by omega, rfl, Below.refl _ _⟩
          case round =>
            obtain ⟨j, hj, rfl, hbr⟩ := hrel
            by_cases hji : j < i
            · obtain ⟨p, hpj⟩ : ∃ p, ps[j]? = some p := ⟨_, List.getElem?_eq_getElem (by omega)⟩
              obtain ⟨x, hxj⟩ : ∃ x, vs[j]? = some x := ⟨_, List.getElem?_eq_getElem (by omega)⟩
              have okj : Okt (puts (L.take j) .e) := Okt.puts (fun q hq => hlok q (List.mem_of_mem_take hq)) Okt.nil
              have hlj : (puts (L.take j) .e).len ≤ 1000000 := by
                have := len_puts (l := L.take j) (fun q hq => hlok q (List.mem_of_mem_take hq)) Okt.nil
                have h2 : (L.take j).length ≤ j := by simp; omega
                simp only [Tr.len] at this
                omega
              have hAtj := ((hps j p hpj).below hbr).more hbr.size
              have hPsj := ((hvs j x hxj).ext hbr).1
              obtain ⟨g7, o7, e7, _, hg7, hcl7⟩ := hrd7.some (by rw [length_tcs]; omega)
              obtain ⟨g8, o8, e8, _, hg8, hcl8⟩ := hrd8.some (by omega)
              subst e7 e8
              have x0 : wr.cell? ⟨g7, o7 + j * 2, none⟩ = some (.pointer p) := (hbr.cell hg7).trans (hcl7 _ _ (tcs_at hpj).1)
              have x1 : wr.cell? ⟨g7, o7 + j * 2 + 1, none⟩ = some (.int .i64 0) := (hbr.cell hg7).trans (by rw [Nat.add_assoc]; exact hcl7 _ _ (tcs_at hpj).2)
              have x2 : wr.cell? ⟨g8, o8 + j, none⟩ = some x := (hbr.cell hg8).trans (hcl8 _ _ hxj)
              have zg7 : g7 < wr.heap.size := Nat.lt_of_lt_of_le hg7 hbr.size
              have zg8 : g8 < wr.heap.size := Nat.lt_of_lt_of_le hg8 hbr.size
              clear hps hvs hrd7 hrd8 hcl7 hcl8 hpj hxj
              generalize puts (L.take j) .e = Tj at *
              go_wp2_with fail
              refine wp_ext (by kernel_rfl) (by kernel_rfl) ?_
              repeat (go_big_quiet_step ((go_at_call 30; exact quiet_ext (fun W hW => same_any Tj (.pointer p) x W okj hlj ((hAtj.below hW).more hW.size) ((hPsj.below hW).more hW.size)))))
              refine wpQuiet_nil ?_
              rintro w20 ⟨p20, hw20⟩
              have Be : Below wr.heap.size wr w20 := by rw [hw20]; exact below_ext wr p20
              clear hw20 x0 x1 x2
              go_wp2_with fail
              go_roundw
              case rel => exact ⟨j + 1, by omega, by go_num, hbr.trans (Be.mono hbr.size)⟩
              case measure => simp [intOf]; omega
            · obtain rfl : j = i := by omega
              have KTr := KT.below hbr zT
              have t0 : wr.cell? ⟨gT, 0, none⟩ = some (.pointer pT) := KTr.at_ rfl
              have t1 : wr.cell? ⟨gT, 1, none⟩ = some (.int .i64 0) := KTr.at_ rfl
              have hAtr := (hAt.below hbr).more hbr.size
              have hPsr := (hPs.ext hbr).1
              have Bwr := Bw2.trans (hbr.mono (B' := w.heap.size) Bw2.size)
              generalize puts (L.take j) .e = Tj at *
              go_wp2_with fail
              refine (same_any Tj (.pointer pT) u6 wr okT (by omega) hAtr hPsr).mono ?_
              rintro e w21 ⟨rfl, h21⟩
              go_wp2_with fail
              go_ret
              exact ⟨rfl, below_two Bwr h21 Bwr.size⟩
      · subst hs; simp at hlt
    ·
      have hltz : decide ((i : Int) < (L.length : Int)) = false := decide_eq_false (by omega)
      have hIX := hI
      clear hI
      obtain ⟨pT, ps, vs, okT, hlT, hPs, hAt, KT, hpl, hvl, O7, O8, hap, hps, hvs, Bw2⟩ := hIX
      obtain ⟨A7, c7, e7, hc71, hc72⟩ := ownsRow_form O7
      obtain ⟨A8', c8', e8, hc81, hc82⟩ := ownsRow_form O8
      subst e7 e8
      have hrd7 := ownsRow_rd O7
      have hrd8 := ownsRow_rd O8
      have zT := KT.lt
      clear hap O7 O8
      go_wp2_with fail
      go_loopw [84] (fun t wr2 => ∃ j : Nat, j ≤ i ∧ t = .int .i64 (j : Int) ∧ Below wr.heap.size wr wr2) (fun t _ => i - (intOf t).toNat)
      case atStart => exact ⟨0, by omega, rfl, Below.refl _ _⟩
      case round =>
        obtain ⟨j, hj, rfl, hbr⟩ := hrel
        by_cases hji : j < i
        · obtain ⟨p, hpj⟩ : ∃ p, ps[j]? = some p := ⟨_, List.getElem?_eq_getElem (by omega)⟩
          obtain ⟨x, hxj⟩ : ∃ x, vs[j]? = some x := ⟨_, List.getElem?_eq_getElem (by omega)⟩
          have okj : Okt (puts (L.take j) .e) := Okt.puts (fun q hq => hlok q (List.mem_of_mem_take hq)) Okt.nil
          have hlj : (puts (L.take j) .e).len ≤ 1000000 := by
            have := len_puts (l := L.take j) (fun q hq => hlok q (List.mem_of_mem_take hq)) Okt.nil
            have h2 : (L.take j).length ≤ j := by simp; omega
            simp only [Tr.len] at this
            omega
          have hAtj := ((hps j p hpj).below hbr).more hbr.size
          have hPsj := ((hvs j x hxj).ext hbr).1
          obtain ⟨g7, o7, e7, _, hg7, hcl7⟩ := hrd7.some (by rw [length_tcs]; omega)
          obtain ⟨g8, o8, e8, _, hg8, hcl8⟩ := hrd8.some (by omega)
          subst e7 e8
          have x0 : wr.cell? ⟨g7, o7 + j * 2, none⟩ = some (.pointer p) := (hbr.cell hg7).trans (hcl7 _ _ (tcs_at hpj).1)
          have x1 : wr.cell? ⟨g7, o7 + j * 2 + 1, none⟩ = some (.int .i64 0) := (hbr.cell hg7).trans (by rw [Nat.add_assoc]; exact hcl7 _ _ (tcs_at hpj).2)
          have x2 : wr.cell? ⟨g8, o8 + j, none⟩ = some x := (hbr.cell hg8).trans (hcl8 _ _ hxj)
          have zg7 : g7 < wr.heap.size := Nat.lt_of_lt_of_le hg7 hbr.size
          have zg8 : g8 < wr.heap.size := Nat.lt_of_lt_of_le hg8 hbr.size
          clear hps hvs hrd7 hrd8 hcl7 hcl8 hpj hxj
          generalize puts (L.take j) .e = Tj at *
          go_wp2_with fail
          refine wp_ext (by kernel_rfl) (by kernel_rfl) ?_
          repeat (go_big_quiet_step ((go_at_call 30; exact quiet_ext (fun W hW => same_any Tj (.pointer p) x W okj hlj ((hAtj.below hW).more hW.size) ((hPsj.below hW).more hW.size)))))
          refine wpQuiet_nil ?_
          rintro w20 ⟨p20, hw20⟩
          have Be : Below wr.heap.size wr w20 := by rw [hw20]; exact below_ext wr p20
          clear hw20 x0 x1 x2
          go_wp2_with fail
          go_roundw
          case rel => exact ⟨j + 1, by omega, by go_num, hbr.trans (Be.mono hbr.size)⟩
          case measure => simp [intOf]; omega
        · obtain rfl : j = i := by omega
          have KTr := KT.below hbr zT
          have t0 : wr.cell? ⟨gT, 0, none⟩ = some (.pointer pT) := KTr.at_ rfl
          have t1 : wr.cell? ⟨gT, 1, none⟩ = some (.int .i64 0) := KTr.at_ rfl
          have hAtr := (hAt.below hbr).more hbr.size
          have hPsr := (hPs.ext hbr).1
          have Bwr := Bw2.trans (hbr.mono (B' := w.heap.size) Bw2.size)
          generalize puts (L.take j) .e = Tj at *
          go_wp2_with fail
          refine (same_any Tj (.pointer pT) u6 wr okT (by omega) hAtr hPsr).mono ?_
          rintro e w21 ⟨rfl, h21⟩
          go_wp2_with fail
          go_ret
          exact ⟨rfl, below_two Bwr h21 Bwr.size⟩
end Go.Proofs.Ytpalomkcgfalnaa
