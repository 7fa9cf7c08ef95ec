/- tree.put: the tree behind a put. -/
import Derived.Test.YtpalomkcgfalnaaTrp
import Derived.Outline
set_option linter.unusedVariables false
set_option linter.unusedSimpArgs false
namespace Go.Proofs.Ytpalomkcgfalnaa
open Go Go.RowKit Sh
theorem boxed2 (w : World) (k v : List UInt8) (n : Nat) : Below w.heap.size w (((w.alloc (.cells (c8 k).toArray 25)).alloc (.cells (c8 v).toArray 25)).drewN n) :=
  below_drewN (((Below.refl _ _).alloc (Nat.le_refl _) _).alloc (by simp) _) n
set_option maxHeartbeats 1000000 in
theorem putNew (k v : List UInt8) (hk : k.length = 32) (hv : v.length = 32) (t : Tr) (ht : t = .e ∨ ∃ v', t = .lf k v') (pt : Value) (n : Int) (w : World) (hat : At w w.heap.size t pt) :
    Calls Try.prog 57 #[pt, .int .i64 n, A8 k, A8 v] w fun e w' => ∃ p, e = .returned p ∧ At w' w'.heap.size (.lf k v) p ∧ Below w.heap.size w w' := by
  rcases ht with rfl | ⟨v', rfl⟩
  · obtain rfl : pt = .pointer none := hat
    go_enter Try.func57, Try.ntmps57
    go_wp2_with fail
    go_quiet (fail)
    go_wp2_with fail
    refine (leaf_any k v hk hv _).mono ?_
    rintro e w1 ⟨p, rfl, ha, hb⟩
    have B1 := below_two (boxed2 w k v nq) hb (boxed2 w k v nq).size
    clear hb
    go_wp2_with fail
    go_ret
    exact ⟨_, rfl, ha, B1⟩
  · obtain ⟨g, rfl, hg, _, hv', hb⟩ := hat
    have hc := node_count hb hk hv' (Tr.root_length _)
    have hkk := node_key hb hk
    have hee : (k == k) = true := by simp
    clear hb
    go_enter Try.func57, Try.ntmps57
    go_wp2_with fail
    go_quiet (fail)
    go_wp2_with fail
    refine (leaf_any k v hk hv _).mono ?_
    rintro e w1 ⟨p, rfl, ha, hb⟩
    have B1 := below_two (boxed2 w k v nq) hb (boxed2 w k v nq).size
    clear hb
    go_wp2_with fail
    go_ret
    exact ⟨_, rfl, ha, B1⟩
set_option maxRecDepth 100000 in
set_option maxHeartbeats 4000000 in
theorem put_any (k v : List UInt8) (hk : k.length = 32) (hv : v.length = 32) : ∀ (f d : Nat) (t : Tr) (P : Nat → Bool) (pt : Value) (n : Int) (w : World), f + d = 256 → n = (d : Int) → (∀ i, i < d → kbit k i = P i) → Ok d P t → t.len ≤ 1000000000000 → At w w.heap.size t pt →
    Calls Try.prog 57 #[pt, .int .i64 n, A8 k, A8 v] w fun e w' => ∃ p, e = .returned p ∧ At w' w'.heap.size (ins k v f d t) p ∧ Below w.heap.size w w' := by
  intro f
  induction f with
  | zero =>
    intro d t P pt n w hf hn ha ok hlen hat
    cases t with
    | e => exact putNew k v hk hv .e (.inl rfl) pt n w hat
    | lf k' v' =>
      have e : k' = k := key_ext ok.1 hk fun i hi => by rw [ok.2.2 i (by omega), ha i (by omega)]
      have e2 : ins k v 0 d (.lf k' v') = .lf k v := by simp [ins, e]
      rw [e2]
      subst e
      exact putNew k' v hk hv _ (.inr ⟨v', rfl⟩) pt n w hat
    | nd l r => exact absurd ok.1 (by omega)
  | succ f ih =>
    intro d t P pt n w hf hn ha ok hlen hat
    cases t with
    | e =>
      have e2 : ins k v (f + 1) d .e = .lf k v := by simp [ins]
      rw [e2]
      exact putNew k v hk hv .e (.inl rfl) pt n w hat
    | lf k' v' =>
      by_cases e : k' = k
      · have e2 : ins k v (f + 1) d (.lf k' v') = .lf k v := by simp [ins, e]
        rw [e2]
        subst e
        exact putNew k' v hk hv _ (.inr ⟨v', rfl⟩) pt n w hat
      · subst hn
        have hne : (k' == k) = false := by simp [e]
        have hat' := hat
        obtain ⟨g, rfl, hg, hk', hv', hb⟩ := hat
        have hc := node_count hb hk' hv' (Tr.root_length _)
        have hkk := node_key hb hk'
        have hl := node_left hb hk' hv'
        have hr := node_right hb hk' hv'
        have hd : d < 256 := by omega
        clear hb
        cases hb : kbit k d <;> cases hb' : kbit k' d
        · have e2 : ins k v (f + 1) d (.lf k' v') = .nd (ins k v f (d + 1) (.lf k' v')) (.e) := by simp [ins, e, hb, hb']
          have okd : Ok (d + 1) (upd P d false) (.lf k' v') := ⟨hk', hv', agree_upd ok.2.2 hb'⟩
          have hle := ins_len k v hk f (d + 1) (.lf k' v') _ (by omega) (agree_upd ha hb) okd
          have hle2 : (ins k v f (d + 1) (.lf k' v')).len ≤ 2 := by rw [hle]; split <;> simp [Tr.len]
          clear hle
          rw [e2]
          clear e2
          go_enter Try.func57, Try.ntmps57
          go_wp2_with fail
          go_quiet (fail)
          go_wp2_with fail
          go_quiet (fail)
          go_wp2_with fail
          clear hc hkk hl hr
          refine (treebit_any k' d hk' hd _).mono ?_
          rintro e' w1 ⟨rfl, h1⟩
          have K1 : Bk w1 w.heap.size 25 (c8 k) := (Bk.drewN ((Bk.new w _ (c8 k)).alloc _) _).below h1 (by simp; omega)
          have V1 : Bk w1 (w.heap.size + 1) 25 (c8 v) := (Bk.drewN (by simpa using Bk.new (w.alloc (.cells (c8 k).toArray 25)) 25 (c8 v)) _).below h1 (by simp)
          have B1 := below_two (boxed2 w k v _) h1 (boxed2 w k v _).size
          have z1 := V1.lt
          have k1 : rowAt w1 ⟨w.heap.size, 0, none⟩ 32 = some (c8 k) := by have := K1.rows; rwa [length_c8, hk] at this
          rw [hb']
          clear h1
          go_wp2_with fail
          refine (treebit_any k d hk hd _).mono ?_
          rintro e' w2 ⟨rfl, h2⟩
          have K2 := K1.below h2 K1.lt
          have V2 := V1.below h2 V1.lt
          have B2 := below_two B1 h2 B1.size
          have k2 : rowAt w2 ⟨w.heap.size, 0, none⟩ 32 = some (c8 k) := by have := K2.rows; rwa [length_c8, hk] at this
          have v2 : rowAt w2 ⟨w.heap.size + 1, 0, none⟩ 32 = some (c8 v) := by have := V2.rows; rwa [length_c8, hv] at this
          rw [hb]
          clear h2 k1 K1 V1 B1 K2 V2
          go_wp2_with fail
          refine (ih (d + 1) (.lf k' v') _ (.pointer (some ⟨g, 0, none⟩)) _ w2 (by omega) (by omega) (agree_upd ha hb) okd (by simp [Tr.len]) ((hat'.below B2).more B2.size)).mono ?_
          rintro e' w3 ⟨p, rfl, hp3, h3⟩
          have hao : At w3 w3.heap.size (.e) (.pointer none) := rfl
          have B3 := below_two B2 h3 B2.size
          clear h3 k2 v2
          go_wp2_with fail
          refine (inner_any _ (.e) p (.pointer none) (by simp only [Tr.len] at *; omega) w3 hp3 hao).mono ?_
          rintro e' w4 ⟨q, rfl, hq, h4⟩
          go_wp2_with fail
          go_ret
          exact ⟨_, rfl, hq, below_two B3 h4 B3.size⟩
        · have e2 : ins k v (f + 1) d (.lf k' v') = .nd (ins k v f (d + 1) (.e)) (.lf k' v') := by simp [ins, e, hb, hb']
          have okd : Ok (d + 1) (upd P d false) (.e) := trivial
          have hle := ins_len k v hk f (d + 1) (.e) _ (by omega) (agree_upd ha hb) okd
          have hle2 : (ins k v f (d + 1) (.e)).len ≤ 2 := by rw [hle]; split <;> simp [Tr.len]
          clear hle
          rw [e2]
          clear e2
          go_enter Try.func57, Try.ntmps57
          go_wp2_with fail
          go_quiet (fail)
          go_wp2_with fail
          go_quiet (fail)
          go_wp2_with fail
          clear hc hkk hl hr
          refine (treebit_any k' d hk' hd _).mono ?_
          rintro e' w1 ⟨rfl, h1⟩
          have K1 : Bk w1 w.heap.size 25 (c8 k) := (Bk.drewN ((Bk.new w _ (c8 k)).alloc _) _).below h1 (by simp; omega)
          have V1 : Bk w1 (w.heap.size + 1) 25 (c8 v) := (Bk.drewN (by simpa using Bk.new (w.alloc (.cells (c8 k).toArray 25)) 25 (c8 v)) _).below h1 (by simp)
          have B1 := below_two (boxed2 w k v _) h1 (boxed2 w k v _).size
          have z1 := V1.lt
          have k1 : rowAt w1 ⟨w.heap.size, 0, none⟩ 32 = some (c8 k) := by have := K1.rows; rwa [length_c8, hk] at this
          rw [hb']
          clear h1
          go_wp2_with fail
          refine (treebit_any k d hk hd _).mono ?_
          rintro e' w2 ⟨rfl, h2⟩
          have K2 := K1.below h2 K1.lt
          have V2 := V1.below h2 V1.lt
          have B2 := below_two B1 h2 B1.size
          have k2 : rowAt w2 ⟨w.heap.size, 0, none⟩ 32 = some (c8 k) := by have := K2.rows; rwa [length_c8, hk] at this
          have v2 : rowAt w2 ⟨w.heap.size + 1, 0, none⟩ 32 = some (c8 v) := by have := V2.rows; rwa [length_c8, hv] at this
          rw [hb]
          clear h2 k1 K1 V1 B1 K2 V2
          go_wp2_with fail
          refine (ih (d + 1) (.e) _ (.pointer none) _ w2 (by omega) (by omega) (agree_upd ha hb) okd (by simp [Tr.len]) (rfl)).mono ?_
          rintro e' w3 ⟨p, rfl, hp3, h3⟩
          have hao : At w3 w3.heap.size (.lf k' v') (.pointer (some ⟨g, 0, none⟩)) := (((hat'.below B2).more B2.size).below h3).more h3.size
          have B3 := below_two B2 h3 B2.size
          clear h3 k2 v2
          go_wp2_with fail
          refine (inner_any _ (.lf k' v') p (.pointer (some ⟨g, 0, none⟩)) (by simp only [Tr.len] at *; omega) w3 hp3 hao).mono ?_
          rintro e' w4 ⟨q, rfl, hq, h4⟩
          go_wp2_with fail
          go_ret
          exact ⟨_, rfl, hq, below_two B3 h4 B3.size⟩
        · have e2 : ins k v (f + 1) d (.lf k' v') = .nd (.lf k' v') (ins k v f (d + 1) (.e)) := by simp [ins, e, hb, hb']
          have okd : Ok (d + 1) (upd P d true) (.e) := trivial
          have hle := ins_len k v hk f (d + 1) (.e) _ (by omega) (agree_upd ha hb) okd
          have hle2 : (ins k v f (d + 1) (.e)).len ≤ 2 := by rw [hle]; split <;> simp [Tr.len]
          clear hle
          rw [e2]
          clear e2
          go_enter Try.func57, Try.ntmps57
          go_wp2_with fail
          go_quiet (fail)
          go_wp2_with fail
          go_quiet (fail)
          go_wp2_with fail
          clear hc hkk hl hr
          refine (treebit_any k' d hk' hd _).mono ?_
          rintro e' w1 ⟨rfl, h1⟩
          have K1 : Bk w1 w.heap.size 25 (c8 k) := (Bk.drewN ((Bk.new w _ (c8 k)).alloc _) _).below h1 (by simp; omega)
          have V1 : Bk w1 (w.heap.size + 1) 25 (c8 v) := (Bk.drewN (by simpa using Bk.new (w.alloc (.cells (c8 k).toArray 25)) 25 (c8 v)) _).below h1 (by simp)
          have B1 := below_two (boxed2 w k v _) h1 (boxed2 w k v _).size
          have z1 := V1.lt
          have k1 : rowAt w1 ⟨w.heap.size, 0, none⟩ 32 = some (c8 k) := by have := K1.rows; rwa [length_c8, hk] at this
          rw [hb']
          clear h1
          go_wp2_with fail
          refine (treebit_any k d hk hd _).mono ?_
          rintro e' w2 ⟨rfl, h2⟩
          have K2 := K1.below h2 K1.lt
          have V2 := V1.below h2 V1.lt
          have B2 := below_two B1 h2 B1.size
          have k2 : rowAt w2 ⟨w.heap.size, 0, none⟩ 32 = some (c8 k) := by have := K2.rows; rwa [length_c8, hk] at this
          have v2 : rowAt w2 ⟨w.heap.size + 1, 0, none⟩ 32 = some (c8 v) := by have := V2.rows; rwa [length_c8, hv] at this
          rw [hb]
          clear h2 k1 K1 V1 B1 K2 V2
          go_wp2_with fail
          refine (ih (d + 1) (.e) _ (.pointer none) _ w2 (by omega) (by omega) (agree_upd ha hb) okd (by simp [Tr.len]) (rfl)).mono ?_
          rintro e' w3 ⟨p, rfl, hp3, h3⟩
          have hao : At w3 w3.heap.size (.lf k' v') (.pointer (some ⟨g, 0, none⟩)) := (((hat'.below B2).more B2.size).below h3).more h3.size
          have B3 := below_two B2 h3 B2.size
          clear h3 k2 v2
          go_wp2_with fail
          refine (inner_any (.lf k' v') _ (.pointer (some ⟨g, 0, none⟩)) p (by simp only [Tr.len] at *; omega) w3 hao hp3).mono ?_
          rintro e' w4 ⟨q, rfl, hq, h4⟩
          go_wp2_with fail
          go_ret
          exact ⟨_, rfl, hq, below_two B3 h4 B3.size⟩
        · have e2 : ins k v (f + 1) d (.lf k' v') = .nd (.e) (ins k v f (d + 1) (.lf k' v')) := by simp [ins, e, hb, hb']
          have okd : Ok (d + 1) (upd P d true) (.lf k' v') := ⟨hk', hv', agree_upd ok.2.2 hb'⟩
          have hle := ins_len k v hk f (d + 1) (.lf k' v') _ (by omega) (agree_upd ha hb) okd
          have hle2 : (ins k v f (d + 1) (.lf k' v')).len ≤ 2 := by rw [hle]; split <;> simp [Tr.len]
          clear hle
          rw [e2]
          clear e2
          go_enter Try.func57, Try.ntmps57
          go_wp2_with fail
          go_quiet (fail)
          go_wp2_with fail
          go_quiet (fail)
          go_wp2_with fail
          clear hc hkk hl hr
          refine (treebit_any k' d hk' hd _).mono ?_
          rintro e' w1 ⟨rfl, h1⟩
          have K1 : Bk w1 w.heap.size 25 (c8 k) := (Bk.drewN ((Bk.new w _ (c8 k)).alloc _) _).below h1 (by simp; omega)
          have V1 : Bk w1 (w.heap.size + 1) 25 (c8 v) := (Bk.drewN (by simpa using Bk.new (w.alloc (.cells (c8 k).toArray 25)) 25 (c8 v)) _).below h1 (by simp)
          have B1 := below_two (boxed2 w k v _) h1 (boxed2 w k v _).size
          have z1 := V1.lt
          have k1 : rowAt w1 ⟨w.heap.size, 0, none⟩ 32 = some (c8 k) := by have := K1.rows; rwa [length_c8, hk] at this
          rw [hb']
          clear h1
          go_wp2_with fail
          refine (treebit_any k d hk hd _).mono ?_
          rintro e' w2 ⟨rfl, h2⟩
          have K2 := K1.below h2 K1.lt
          have V2 := V1.below h2 V1.lt
          have B2 := below_two B1 h2 B1.size
          have k2 : rowAt w2 ⟨w.heap.size, 0, none⟩ 32 = some (c8 k) := by have := K2.rows; rwa [length_c8, hk] at this
          have v2 : rowAt w2 ⟨w.heap.size + 1, 0, none⟩ 32 = some (c8 v) := by have := V2.rows; rwa [length_c8, hv] at this
          rw [hb]
          clear h2 k1 K1 V1 B1 K2 V2
          go_wp2_with fail
          refine (ih (d + 1) (.lf k' v') _ (.pointer (some ⟨g, 0, none⟩)) _ w2 (by omega) (by omega) (agree_upd ha hb) okd (by simp [Tr.len]) ((hat'.below B2).more B2.size)).mono ?_
          rintro e' w3 ⟨p, rfl, hp3, h3⟩
          have hao : At w3 w3.heap.size (.e) (.pointer none) := rfl
          have B3 := below_two B2 h3 B2.size
          clear h3 k2 v2
          go_wp2_with fail
          refine (inner_any (.e) _ (.pointer none) p (by simp only [Tr.len] at *; omega) w3 hao hp3).mono ?_
          rintro e' w4 ⟨q, rfl, hq, h4⟩
          go_wp2_with fail
          go_ret
          exact ⟨_, rfl, hq, below_two B3 h4 B3.size⟩
    | nd l r =>
      subst hn
      have hat' := hat
      obtain ⟨g, pl, pr, rfl, hg, hb0, hatl, hatr⟩ := hat
      have hc := node_count hb0 (length_z8 32) (length_z8 32) (Tr.root_length _)
      have hl := node_left hb0 (length_z8 32) (length_z8 32)
      have hr := node_right hb0 (length_z8 32) (length_z8 32)
      have hd : d < 256 := ok.1
      have hcb : ((l.len : Int) + r.len == 1) = false := by have := ok.2.1; rw [beq_eq_false_iff_ne]; omega
      clear hb0
      cases hb : kbit k d
      · have e2 : ins k v (f + 1) d (.nd l r) = .nd (ins k v f (d + 1) l) r := by simp [ins, hb]
        have okd : Ok (d + 1) (upd P d false) l := ok.2.2.1
        have hle := ins_len k v hk f (d + 1) l _ (by omega) (agree_upd ha hb) okd
        have hle2 : (ins k v f (d + 1) l).len ≤ l.len + 1 := by rw [hle]; split <;> omega
        clear hle
        rw [e2]
        clear e2
        go_enter Try.func57, Try.ntmps57
        go_wp2_with fail
        go_quiet (fail)
        go_wp2_with fail
        go_quiet (fail)
        go_wp2_with fail
        clear hc hl hr
        refine (treebit_any k d hk hd _).mono ?_
        rintro e' w2 ⟨rfl, h1⟩
        have K2 : Bk w2 w.heap.size 25 (c8 k) := (Bk.drewN ((Bk.new w _ (c8 k)).alloc _) _).below h1 (by simp; omega)
        have V2 : Bk w2 (w.heap.size + 1) 25 (c8 v) := (Bk.drewN (by simpa using Bk.new (w.alloc (.cells (c8 k).toArray 25)) 25 (c8 v)) _).below h1 (by simp)
        have B2 := below_two (boxed2 w k v _) h1 (boxed2 w k v _).size
        have z1 := V2.lt
        have k2 : rowAt w2 ⟨w.heap.size, 0, none⟩ 32 = some (c8 k) := by have := K2.rows; rwa [length_c8, hk] at this
        have v2 : rowAt w2 ⟨w.heap.size + 1, 0, none⟩ 32 = some (c8 v) := by have := V2.rows; rwa [length_c8, hv] at this
        rw [hb]
        clear h1 K2 V2
        go_wp2_with fail
        refine (ih (d + 1) l _ pl _ w2 (by omega) (by omega) (agree_upd ha hb) okd (by simp only [Tr.len] at hlen; omega) ((hatl.below B2).more B2.size)).mono ?_
        rintro e' w3 ⟨p, rfl, hp3, h3⟩
        have hao : At w3 w3.heap.size r pr := ((hatr.below (B2.trans (h3.mono B2.size)))).more (by have := B2.size; have := h3.size; omega)
        have B3 := below_two B2 h3 B2.size
        clear h3 k2 v2
        go_wp2_with fail
        refine (inner_any _ r p pr (by simp only [Tr.len] at *; omega) w3 hp3 hao).mono ?_
        rintro e' w4 ⟨q, rfl, hq, h4⟩
        go_wp2_with fail
        go_ret
        exact ⟨_, rfl, hq, below_two B3 h4 B3.size⟩
      · have e2 : ins k v (f + 1) d (.nd l r) = .nd l (ins k v f (d + 1) r) := by simp [ins, hb]
        have okd : Ok (d + 1) (upd P d true) r := ok.2.2.2
        have hle := ins_len k v hk f (d + 1) r _ (by omega) (agree_upd ha hb) okd
        have hle2 : (ins k v f (d + 1) r).len ≤ r.len + 1 := by rw [hle]; split <;> omega
        clear hle
        rw [e2]
        clear e2
        go_enter Try.func57, Try.ntmps57
        go_wp2_with fail
        go_quiet (fail)
        go_wp2_with fail
        go_quiet (fail)
        go_wp2_with fail
        clear hc hl hr
        refine (treebit_any k d hk hd _).mono ?_
        rintro e' w2 ⟨rfl, h1⟩
        have K2 : Bk w2 w.heap.size 25 (c8 k) := (Bk.drewN ((Bk.new w _ (c8 k)).alloc _) _).below h1 (by simp; omega)
        have V2 : Bk w2 (w.heap.size + 1) 25 (c8 v) := (Bk.drewN (by simpa using Bk.new (w.alloc (.cells (c8 k).toArray 25)) 25 (c8 v)) _).below h1 (by simp)
        have B2 := below_two (boxed2 w k v _) h1 (boxed2 w k v _).size
        have z1 := V2.lt
        have k2 : rowAt w2 ⟨w.heap.size, 0, none⟩ 32 = some (c8 k) := by have := K2.rows; rwa [length_c8, hk] at this
        have v2 : rowAt w2 ⟨w.heap.size + 1, 0, none⟩ 32 = some (c8 v) := by have := V2.rows; rwa [length_c8, hv] at this
        rw [hb]
        clear h1 K2 V2
        go_wp2_with fail
        refine (ih (d + 1) r _ pr _ w2 (by omega) (by omega) (agree_upd ha hb) okd (by simp only [Tr.len] at hlen; omega) ((hatr.below B2).more B2.size)).mono ?_
        rintro e' w3 ⟨p, rfl, hp3, h3⟩
        have hao : At w3 w3.heap.size l pl := ((hatl.below (B2.trans (h3.mono B2.size)))).more (by have := B2.size; have := h3.size; omega)
        have B3 := below_two B2 h3 B2.size
        clear h3 k2 v2
        go_wp2_with fail
        refine (inner_any l _ pl p (by simp only [Tr.len] at *; omega) w3 hao hp3).mono ?_
        rintro e' w4 ⟨q, rfl, hq, h4⟩
        go_wp2_with fail
        go_ret
        exact ⟨_, rfl, hq, below_two B3 h4 B3.size⟩
end Go.Proofs.Ytpalomkcgfalnaa
