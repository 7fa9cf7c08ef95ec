/- witness: put. -/
import Derived.Test.YtlegpkdighoflaaWitC
import Derived.Outline
set_option linter.unusedVariables false
set_option linter.unusedSimpArgs false
namespace Go.Proofs.Ytlegpkdighoflaa
open Go Go.RowKit Sh
/-- Keys lie where their bits lead. -/
def Pt.Ok : Nat → (Nat → Bool) → Pt → Prop
  | _, _, .e => True
  | d, P, .lf k v => k.length = 32 ∧ v.length = 32 ∧ ∀ i, i < d → kbit k i = P i
  | d, P, .nd l r => d < 256 ∧ l.Ok (d + 1) (upd P d false) ∧ r.Ok (d + 1) (upd P d true)
  | _, _, .hd h => h.length = 32
theorem Pt.Ok.wf : ∀ {p : Pt} {d : Nat} {P : Nat → Bool}, p.Ok d P → p.Wf
  | .e, _, _, _ => trivial
  | .lf _ _, _, _, h => ⟨h.1, h.2.1⟩
  | .nd _ _, _, _, h => ⟨h.2.1.wf, h.2.2.wf⟩
  | .hd _, _, _, h => h
theorem Pt.Ok.dp : ∀ {p : Pt} {d : Nat} {P : Nat → Bool}, p.Ok d P → p.Dp d
  | .e, _, _, _ => trivial
  | .lf _ _, _, _, h => trivial
  | .nd _ _, _, _, h => ⟨h.1, h.2.1.dp, h.2.2.dp⟩
  | .hd _, _, _, h => trivial
def Pt.put (k v : List UInt8) : Nat → Nat → Pt → Option Pt
  | _, _, .e => some (.lf k v)
  | _, _, .hd _ => none
  | 0, _, .lf k' _ => if k' = k then some (.lf k v) else none
  | 0, _, .nd _ _ => none
  | f + 1, d, .lf k' v' => if k' = k then some (.lf k v) else
      if kbit k d then (Pt.put k v f (d + 1) (if kbit k' d then .lf k' v' else .e)).map (.nd (if kbit k' d then .e else .lf k' v'))
      else (Pt.put k v f (d + 1) (if kbit k' d then .e else .lf k' v')).map (fun x => .nd x (if kbit k' d then .lf k' v' else .e))
  | f + 1, d, .nd l r => if kbit k d then (Pt.put k v f (d + 1) r).map (.nd l) else (Pt.put k v f (d + 1) l).map (fun x => .nd x r)
def PutRes (o : Option Pt) (q : Pt) (n : Int) : Prop := match o with | some x => x = q ∧ n = 0 | none => n = 100
set_option maxRecDepth 100000 in
theorem wput_hidden (k v : List UInt8) (hk : k.length = 32) (hv : v.length = 32) (d : Nat) (w : World) (h : List UInt8) (hh : h.length = 32) : Calls Try.prog 24 #[(Pt.hd h).val, .int .i64 (d : Int), A8 k, A8 v] w fun e w' => e = .returned (.tuple #[Pt.e.val, .int .i64 100]) ∧ Below w.heap.size w w' := by
  obtain ⟨W0, hW0⟩ : ∃ x, x = ((w.alloc (Obj.cells (c8 k).toArray 24)).alloc (Obj.cells (c8 v).toArray 24)).alloc (Obj.cells #[.nilIface, .nilIface] 70) := ⟨_, rfl⟩
  have B0 : Below w.heap.size w W0 := by rw [hW0]; exact (((Below.refl _ _).alloc (Nat.le_refl _) _).alloc (by simp) _).alloc (by simp; omega) _
  have z3 : W0.heap.size = w.heap.size + 1 + 1 + 1 := by rw [hW0]; simp
  obtain ⟨W1, hW1⟩ : ∃ x, x = putAt (W0.alloc (Obj.cells (c8 (z8 32)).toArray 73)) ⟨W0.heap.size, 0, none⟩ (c8 h) := ⟨_, rfl⟩
  have B1 : Below w.heap.size w W1 := by rw [hW1]; exact below_putAt (B0.alloc B0.size _) (by exact B0.size) _
  have hcan : canAt (W0.alloc (Obj.cells (c8 (z8 32)).toArray 73)) ⟨W0.heap.size, 0, none⟩ 32 = true := (Bk.new W0 _ _).can (by simp)
  rw [z3, hW0] at hcan
  dsimp only [Pt.val]
  go_enter Try.func24, Try.ntmps24
  go_wp2_with fail
  rw [← hW0]
  rw [← z3, ← hW1]
  exact bodyPost_ret (results_two rfl (ResAt.tmp rfl) (ResAt.tmp rfl)) rfl ⟨rfl, B1⟩
section
variable (k v : List UInt8) (hk : k.length = 32) (hv : v.length = 32) (d : Nat) (w : World)
include hk hv
set_option maxRecDepth 100000 in
theorem wput_nil : Calls Try.prog 24 #[Pt.e.val, .int .i64 (d : Int), A8 k, A8 v] w fun e w' => e = .returned (.tuple #[(Pt.lf k v).val, .int .i64 0]) ∧ Below w.heap.size w w' := by
  obtain ⟨W0, hW0⟩ : ∃ x, x = ((w.alloc (Obj.cells (c8 k).toArray 24)).alloc (Obj.cells (c8 v).toArray 24)).alloc (Obj.cells #[.nilIface, .nilIface] 70) := ⟨_, rfl⟩
  have B0 : Below w.heap.size w W0 := by rw [hW0]; exact (((Below.refl _ _).alloc (Nat.le_refl _) _).alloc (by simp) _).alloc (by simp; omega) _
  have K0 : Bk W0 w.heap.size 24 (c8 k) := by rw [hW0]; exact ((Bk.new w _ _).alloc _).alloc _
  have V0 : Bk W0 (w.heap.size + 1) 24 (c8 v) := by rw [hW0]; exact (by simpa using Bk.new (w.alloc (Obj.cells (c8 k).toArray 24)) 24 (c8 v) : Bk _ _ _ _).alloc _
  have rk : rowAt W0 ⟨w.heap.size, 0, none⟩ 32 = some (c8 k) := by have := K0.rows; rwa [length_c8, hk] at this
  have rv : rowAt W0 ⟨w.heap.size + 1, 0, none⟩ 32 = some (c8 v) := by have := V0.rows; rwa [length_c8, hv] at this
  rw [hW0] at rk rv
  dsimp only [Pt.val]
  go_enter Try.func24, Try.ntmps24
  go_wp2_with fail
  rw [← hW0]
  exact bodyPost_ret (results_two rfl (ResAt.tmp rfl) (ResAt.tmp rfl)) rfl ⟨rfl, B0⟩
set_option maxRecDepth 100000 in
theorem wput_same (v' : List UInt8) (hv' : v'.length = 32) : Calls Try.prog 24 #[(Pt.lf k v').val, .int .i64 (d : Int), A8 k, A8 v] w fun e w' => e = .returned (.tuple #[(Pt.lf k v).val, .int .i64 0]) ∧ Below w.heap.size w w' := by
  obtain ⟨W0, hW0⟩ : ∃ x, x = ((w.alloc (Obj.cells (c8 k).toArray 24)).alloc (Obj.cells (c8 v).toArray 24)).alloc (Obj.cells #[.nilIface, .nilIface] 70) := ⟨_, rfl⟩
  have B0 : Below w.heap.size w W0 := by rw [hW0]; exact (((Below.refl _ _).alloc (Nat.le_refl _) _).alloc (by simp) _).alloc (by simp; omega) _
  have K0 : Bk W0 w.heap.size 24 (c8 k) := by rw [hW0]; exact ((Bk.new w _ _).alloc _).alloc _
  have V0 : Bk W0 (w.heap.size + 1) 24 (c8 v) := by rw [hW0]; exact (by simpa using Bk.new (w.alloc (Obj.cells (c8 k).toArray 24)) 24 (c8 v) : Bk _ _ _ _).alloc _
  have z3 : W0.heap.size = w.heap.size + 1 + 1 + 1 := by rw [hW0]; simp
  have hl64 : (pb (k, v')).length = 64 := PrOk.len ⟨hk, hv'⟩
  obtain ⟨W1, hW1⟩ : ∃ x, x = putAt (W0.alloc (Obj.cells (c8 (z8 64)).toArray 75)) ⟨W0.heap.size, 0, none⟩ (c8 (pb (k, v'))) := ⟨_, rfl⟩
  have B01 : Below W0.heap.size W0 W1 := by rw [hW1]; exact below_putAt ((Below.refl _ _).alloc (Nat.le_refl _) _) (Nat.le_refl _) _
  have P1 : Bk W1 W0.heap.size 75 (c8 (pb (k, v'))) := by rw [hW1]; exact Bk.fresh W0 _ (by simp [hl64])
  have K1 := K0.below B01 K0.lt
  have V1 := V0.below B01 V0.lt
  have B1 := below_two B0 B01 B0.size
  have rk : rowAt W1 ⟨w.heap.size, 0, none⟩ 32 = some (c8 k) := by have := K1.rows; rwa [length_c8, hk] at this
  have rv : rowAt W1 ⟨w.heap.size + 1, 0, none⟩ 32 = some (c8 v) := by have := V1.rows; rwa [length_c8, hv] at this
  have rp := pair_key P1 ⟨hk, hv'⟩
  have hne : (k == k) = true := by simp
  have hcan : canAt (W0.alloc (Obj.cells (c8 (z8 64)).toArray 75)) ⟨W0.heap.size, 0, none⟩ 64 = true := (Bk.new W0 _ _).can (by simp)
  rw [z3, hW0] at hcan
  rw [hW1, z3, hW0] at rk rv rp
  dsimp only [Pt.val]
  go_enter Try.func24, Try.ntmps24
  go_wp2_with fail
  rw [← hW0, ← z3, ← hW1]
  exact bodyPost_ret (results_two rfl (ResAt.tmp rfl) (ResAt.tmp rfl)) rfl ⟨rfl, B1⟩
end
theorem Pt.form : ∀ p : Pt, p.val = .nilIface ∨ ∃ t x, p.val = .iface t x
  | .e => .inl rfl
  | .lf _ _ => .inr ⟨_, _, rfl⟩
  | .nd _ _ => .inr ⟨_, _, rfl⟩
  | .hd _ => .inr ⟨_, _, rfl⟩
theorem upd_way {k : List UInt8} {d : Nat} {P : Nat → Bool} {b : Bool} (ha : ∀ i, i < d → kbit k i = P i) (hb : kbit k d = b) : ∀ i, i < d + 1 → kbit k i = upd P d b i := by
  intro i hi
  rcases Nat.lt_or_ge i d with h | h
  · rw [upd_lt _ _ h, ha i h]
  · obtain rfl : i = d := by omega
    rw [upd_at, hb]
set_option maxRecDepth 100000 in
set_option maxHeartbeats 8000000 in
theorem wput_any (k v : List UInt8) (hk : k.length = 32) (hv : v.length = 32) : ∀ (f d : Nat) (p : Pt) (P : Nat → Bool) (w : World), f + d = 256 → p.Ok d P → (∀ i, i < d → kbit k i = P i) →
    Calls Try.prog 24 #[p.val, .int .i64 (d : Int), A8 k, A8 v] w fun e w' => ∃ (q : Pt) (n : Int), e = .returned (.tuple #[q.val, .int .i64 n]) ∧ PutRes (p.put k v f d) q n ∧ Below w.heap.size w w' := by
  intro f
  induction f with
  | zero =>
    intro d p P w hfd ok ha
    cases p with
    | e => exact (wput_nil k v hk hv d w).mono fun e w' ⟨h1, h2⟩ => ⟨.lf k v, 0, h1, ⟨rfl, rfl⟩, h2⟩
    | hd h => exact (wput_hidden k v hk hv d w h ok).mono fun e w' ⟨h1, h2⟩ => ⟨.e, 100, h1, rfl, h2⟩
    | lf k' v' =>
      have e : k' = k := key_ext ok.1 hk fun i hi => by rw [ok.2.2 i (by omega), ha i (by omega)]
      subst e
      exact (wput_same k' v ok.1 hv d w v' ok.2.1).mono fun e w' ⟨h1, h2⟩ => ⟨.lf k' v, 0, h1, by simp [Pt.put, PutRes], h2⟩
    | nd l r => exact absurd ok.1 (by omega)
  | succ f ih =>
    intro d p P w hfd ok ha
    obtain ⟨W0, hW0⟩ : ∃ x, x = ((w.alloc (Obj.cells (c8 k).toArray 24)).alloc (Obj.cells (c8 v).toArray 24)).alloc (Obj.cells #[.nilIface, .nilIface] 70) := ⟨_, rfl⟩
    have B0 : Below w.heap.size w W0 := by rw [hW0]; exact (((Below.refl _ _).alloc (Nat.le_refl _) _).alloc (by simp) _).alloc (by simp; omega) _
    have K0 : Bk W0 w.heap.size 24 (c8 k) := by rw [hW0]; exact ((Bk.new w _ _).alloc _).alloc _
    have V0 : Bk W0 (w.heap.size + 1) 24 (c8 v) := by rw [hW0]; exact (by simpa using Bk.new (w.alloc (Obj.cells (c8 k).toArray 24)) 24 (c8 v) : Bk _ _ _ _).alloc _
    have A0 : Bk W0 (w.heap.size + 1 + 1) 70 [.nilIface, .nilIface] := by rw [hW0]; simpa using Bk.new ((w.alloc (Obj.cells (c8 k).toArray 24)).alloc (Obj.cells (c8 v).toArray 24)) 70 [.nilIface, .nilIface]
    have z3 : W0.heap.size = w.heap.size + 1 + 1 + 1 := by rw [hW0]; simp
    have hd : d < 256 := by omega
    cases p with
    | e => exact (wput_nil k v hk hv d w).mono fun e w' ⟨h1, h2⟩ => ⟨.lf k v, 0, h1, ⟨rfl, rfl⟩, h2⟩
    | hd h => exact (wput_hidden k v hk hv d w h ok).mono fun e w' ⟨h1, h2⟩ => ⟨.e, 100, h1, rfl, h2⟩
    | nd l r =>
      obtain ⟨W1, hW1⟩ : ∃ x, x = (((w.alloc (Obj.cells (c8 k).toArray 24)).alloc (Obj.cells (c8 v).toArray 24)).alloc (Obj.cells #[l.val, r.val] 70)).alloc (Obj.cells #[l.val, r.val] 70) := ⟨_, rfl⟩
      have AT : Bk W1 (w.heap.size + 1 + 1) 70 [l.val, r.val] := by rw [hW1]; exact (by simpa using Bk.new ((w.alloc (Obj.cells (c8 k).toArray 24)).alloc (Obj.cells (c8 v).toArray 24)) 70 [l.val, r.val] : Bk _ _ _ _).alloc _
      have KT : Bk W1 w.heap.size 24 (c8 k) := by rw [hW1]; exact (((Bk.new w _ _).alloc _).alloc _).alloc _
      have VT : Bk W1 (w.heap.size + 1) 24 (c8 v) := by rw [hW1]; exact ((by simpa using Bk.new (w.alloc (Obj.cells (c8 k).toArray 24)) 24 (c8 v) : Bk _ _ _ _).alloc _).alloc _
      have BT : Below w.heap.size w W1 := by rw [hW1]; exact ((((Below.refl _ _).alloc (Nat.le_refl _) _).alloc (by simp) _).alloc (by simp; omega) _).alloc (by simp; omega) _
      have rk : rowAt W1 ⟨w.heap.size, 0, none⟩ 32 = some (c8 k) := by have := KT.rows; rwa [length_c8, hk] at this
      rw [hW1] at rk
      obtain ⟨pp, hpp⟩ : ∃ pp, pp = Pt.nd l r := ⟨_, rfl⟩
      have hput : pp.put k v (f + 1) d = if kbit k d then (r.put k v f (d + 1)).map (.nd l) else (l.put k v f (d + 1)).map (fun x => .nd x r) := by rw [hpp]; simp only [Pt.put]
      have Hput := Lib.hid hput
      have oka := ok.2.1
      have okb := ok.2.2
      rw [← hpp]
      have hval : pp.val = .iface 70 (.agg #[l.val, r.val]) := by rw [hpp]; rfl
      rw [hval]
      clear hput hval hpp ok
      go_enter Try.func24, Try.ntmps24
      go_wp2_with fail
      rw [← hW1]
      clear rk hW1 hW0 B0 K0 V0 A0 z3
      obtain ⟨WT, hWT⟩ : ∃ x, x = W1 := ⟨_, rfl⟩
      rw [← hWT] at AT KT VT BT ⊢
      clear hWT
      obtain ⟨gA, hgA⟩ : ∃ x, x = w.heap.size + 1 + 1 := ⟨_, rfl⟩
      rw [← hgA] at AT ⊢
      have hgw : w.heap.size ≤ gA := by omega
      clear hgA
      refine (wbit_any k d hk hd WT).mono ?_
      rintro e W5 ⟨rfl, h5⟩
      have A5 := AT.below h5 AT.lt
      have K5 := KT.below h5 KT.lt
      have V5 := VT.below h5 VT.lt
      have B5 := below_two BT h5 BT.size
      have f0 := A5.frozen 0
      have f1 := A5.frozen 1
      clear h5 AT KT VT BT
      cases hbit : kbit k d
      · have hput2 : pp.put k v (f + 1) d = (Pt.put k v f (d + 1) (l)).map (fun x => .nd x (r)) := by rw [Hput.out, hbit]; rfl
        have Hput2 := Lib.hid hput2
        clear hput2
        go_wp2_with fail
        have S0 : Below W5.heap.size W5 W5.drew := (Below.refl _ _).drew
        refine held_begin (fun W => Below W5.heap.size W5 W) (by kernel_rfl) ?_
        refine held_quiet (A := ?Afalse1n) [0, 1, 2, 3, 4, 5, 6] (by kernel_rfl) (by kernel_rfl) rfl (by kernel_rfl) (by kernel_rfl) S0 (h := fun W hW => ?hfalse1n) (hr := ?rfalse1n)
        case hfalse1n =>
          have c0 : W.cell? ⟨gA, 0, none⟩ = some (l).val := (A5.below hW A5.lt).at_ rfl
          have rk : rowAt W ⟨w.heap.size, 0, none⟩ 32 = some (c8 k) := by have := (K5.below hW K5.lt).rows; rwa [length_c8, hk] at this
          have rv : rowAt W ⟨w.heap.size + 1, 0, none⟩ 32 = some (c8 v) := by have := (V5.below hW V5.lt).rows; rwa [length_c8, hv] at this
          simp only [pick, List.getElem?_cons_zero, List.getElem?_cons_succ]
          repeat (go_big_quiet_step (fail))
          refine wpQuiet_nil ?_
          rfl
        case rfalse1n =>
          refine held_one 7 (by kernel_rfl) (by rfl) (by rfl) (fun Q' hQ' => ?_)
          dsimp only [bare]
          go_wp2_with fail
          rw [show (d : Int) + 1 = ((d + 1 : Nat) : Int) from by omega]
          refine (ih (d + 1) (l) (upd P d false) _ (by omega) oka (upd_way ha hbit)).mono ?_
          rintro e W6 ⟨q, n, rfl, hres, h6⟩
          have S6 := below_two S0 h6 S0.size
          have A6 := A5.below S6 A5.lt
          have B6 := below_two B5 S6 B5.size
          have f0 := A6.frozen 0
          have c0 := A6.at_ (i := 0) rfl
          go_wp2_with fail
          refine hQ' _ _ S6 ?_
          clear hQ'
          refine held_quiet (A := ?Afalse2n) [8, 9, 10] (by kernel_rfl) (by kernel_rfl) rfl (by kernel_rfl) (by kernel_rfl) S6 (h := fun W hW => ?hfalse2n) (hr := ?rfalse2n)
          case hfalse2n =>
            simp only [List.append_eq, List.nil_append, List.cons_append, pick, List.getElem?_cons_zero, List.getElem?_cons_succ]
            repeat (go_big_quiet_step (fail))
            refine wpQuiet_nil ?_
            rfl
          case rfalse2n =>
            refine held_one 11 (by kernel_rfl) (by rfl) (by rfl) (fun Q' hQ' => ?_)
            dsimp only [bare]
            go_wp2_with fail
            refine hQ' _ _ S6 ?_
            clear hQ'
            refine held_one 12 (by kernel_rfl) (by rfl) (by rfl) (fun Q' hQ' => ?_)
            dsimp only [bare]
            go_wp2_with fail
            refine hQ' _ _ S6 ?_
            clear hQ'
            refine held_end (by kernel_rfl) ?_
            have A7 : Bk (W6.setCell ⟨gA, 0, none⟩ q.val) gA 70 [q.val, (r).val] := A6.set_ 0 q.val
            have d0 := A7.at_ (i := 0) rfl
            have d1 := A7.at_ (i := 1) rfl
            clear A6 A7 S6
            rcases q.form with hq | ⟨tq, xq, hq⟩
            all_goals
              rw [hq] at d0 d1 ⊢
              have Hq := Lib.hid hq
              clear hq
              go_wp2_with fail
              refine bodyPost_ret (results_two rfl (ResAt.tmp rfl) (ResAt.tmp rfl)) rfl ⟨.nd q (r), n, by simp only [Pt.val, Hq.out]; rfl, ?_, B6.setCell (p := ⟨gA, 0, none⟩) (by simp; omega) _⟩
              rw [Hput2.out]
              revert hres
              cases Pt.put k v f (d + 1) (l) with
              | none => exact fun h => h
              | some t => rintro ⟨rfl, h⟩; exact ⟨rfl, h⟩
      · have hput2 : pp.put k v (f + 1) d = (Pt.put k v f (d + 1) (r)).map (.nd (l)) := by rw [Hput.out, hbit]; rfl
        have Hput2 := Lib.hid hput2
        clear hput2
        go_wp2_with fail
        have S0 : Below W5.heap.size W5 W5.drew := (Below.refl _ _).drew
        refine held_begin (fun W => Below W5.heap.size W5 W) (by kernel_rfl) ?_
        refine held_quiet (A := ?Atrue1n) [0, 1, 2, 3, 4, 5, 6] (by kernel_rfl) (by kernel_rfl) rfl (by kernel_rfl) (by kernel_rfl) S0 (h := fun W hW => ?htrue1n) (hr := ?rtrue1n)
        case htrue1n =>
          have c0 : W.cell? ⟨gA, 1, none⟩ = some (r).val := (A5.below hW A5.lt).at_ rfl
          have rk : rowAt W ⟨w.heap.size, 0, none⟩ 32 = some (c8 k) := by have := (K5.below hW K5.lt).rows; rwa [length_c8, hk] at this
          have rv : rowAt W ⟨w.heap.size + 1, 0, none⟩ 32 = some (c8 v) := by have := (V5.below hW V5.lt).rows; rwa [length_c8, hv] at this
          simp only [pick, List.getElem?_cons_zero, List.getElem?_cons_succ]
          repeat (go_big_quiet_step (fail))
          refine wpQuiet_nil ?_
          rfl
        case rtrue1n =>
          refine held_one 7 (by kernel_rfl) (by rfl) (by rfl) (fun Q' hQ' => ?_)
          dsimp only [bare]
          go_wp2_with fail
          rw [show (d : Int) + 1 = ((d + 1 : Nat) : Int) from by omega]
          refine (ih (d + 1) (r) (upd P d true) _ (by omega) okb (upd_way ha hbit)).mono ?_
          rintro e W6 ⟨q, n, rfl, hres, h6⟩
          have S6 := below_two S0 h6 S0.size
          have A6 := A5.below S6 A5.lt
          have B6 := below_two B5 S6 B5.size
          have f0 := A6.frozen 1
          have c0 := A6.at_ (i := 1) rfl
          go_wp2_with fail
          refine hQ' _ _ S6 ?_
          clear hQ'
          refine held_quiet (A := ?Atrue2n) [8, 9, 10] (by kernel_rfl) (by kernel_rfl) rfl (by kernel_rfl) (by kernel_rfl) S6 (h := fun W hW => ?htrue2n) (hr := ?rtrue2n)
          case htrue2n =>
            simp only [List.append_eq, List.nil_append, List.cons_append, pick, List.getElem?_cons_zero, List.getElem?_cons_succ]
            repeat (go_big_quiet_step (fail))
            refine wpQuiet_nil ?_
            rfl
          case rtrue2n =>
            refine held_one 11 (by kernel_rfl) (by rfl) (by rfl) (fun Q' hQ' => ?_)
            dsimp only [bare]
            go_wp2_with fail
            refine hQ' _ _ S6 ?_
            clear hQ'
            refine held_one 12 (by kernel_rfl) (by rfl) (by rfl) (fun Q' hQ' => ?_)
            dsimp only [bare]
            go_wp2_with fail
            refine hQ' _ _ S6 ?_
            clear hQ'
            refine held_end (by kernel_rfl) ?_
            have A7 : Bk (W6.setCell ⟨gA, 1, none⟩ q.val) gA 70 [(l).val, q.val] := A6.set_ 1 q.val
            have d0 := A7.at_ (i := 0) rfl
            have d1 := A7.at_ (i := 1) rfl
            clear A6 A7 S6
            rcases q.form with hq | ⟨tq, xq, hq⟩
            all_goals
              rw [hq] at d0 d1 ⊢
              have Hq := Lib.hid hq
              clear hq
              go_wp2_with fail
              refine bodyPost_ret (results_two rfl (ResAt.tmp rfl) (ResAt.tmp rfl)) rfl ⟨.nd (l) q, n, by simp only [Pt.val, Hq.out]; rfl, ?_, B6.setCell (p := ⟨gA, 1, none⟩) (by simp; omega) _⟩
              rw [Hput2.out]
              revert hres
              cases Pt.put k v f (d + 1) (r) with
              | none => exact fun h => h
              | some t => rintro ⟨rfl, h⟩; exact ⟨rfl, h⟩

    | lf k' v' =>
      have hk' : k'.length = 32 := ok.1
      have hv' : v'.length = 32 := ok.2.1
      by_cases e : k' = k
      · subst e
        exact (wput_same k' v hk' hv d w v' hv').mono fun e w' ⟨h1, h2⟩ => ⟨.lf k' v, 0, h1, by simp [Pt.put, PutRes], h2⟩
      have hne : (k' == k) = false := by simp [e]
      have hl64 : (pb (k', v')).length = 64 := PrOk.len ⟨hk', hv'⟩
      obtain ⟨W1, hW1⟩ : ∃ x, x = putAt (W0.alloc (Obj.cells (c8 (z8 64)).toArray 75)) ⟨W0.heap.size, 0, none⟩ (c8 (pb (k', v'))) := ⟨_, rfl⟩
      have B01 : Below W0.heap.size W0 W1 := by rw [hW1]; exact below_putAt ((Below.refl _ _).alloc (Nat.le_refl _) _) (Nat.le_refl _) _
      have L1 : Bk W1 (w.heap.size + 1 + 1 + 1) 75 (c8 (pb (k', v'))) := by rw [← z3, hW1]; exact Bk.fresh W0 _ (by simp [hl64])
      have K1 := K0.below B01 K0.lt
      have V1 := V0.below B01 V0.lt
      have A1 := A0.below B01 A0.lt
      have B1 := below_two B0 B01 B0.size
      have rk : rowAt W1 ⟨w.heap.size, 0, none⟩ 32 = some (c8 k) := by have := K1.rows; rwa [length_c8, hk] at this
      have rp := pair_key L1 ⟨hk', hv'⟩
      have rp2 := pair_all L1 ⟨hk', hv'⟩
      have d0 := A1.at_ (i := 0) rfl
      have f0 := A1.frozen 0
      have hcan : canAt (W0.alloc (Obj.cells (c8 (z8 64)).toArray 75)) ⟨W0.heap.size, 0, none⟩ 64 = true := (Bk.new W0 _ _).can (by simp)
      rw [z3, hW0] at hcan
      rw [hW1, z3, hW0] at rk rp rp2 d0 f0
      obtain ⟨W2, hW2⟩ : ∃ x, x = W1.setCell ⟨w.heap.size + 1 + 1, 0, none⟩ (.iface 75 (A8 (pb (k', v')))) := ⟨_, rfl⟩
      have L2 : Bk W2 (w.heap.size + 1 + 1 + 1) 75 (c8 (pb (k', v'))) := by rw [hW2]; exact L1.far (by simp) _
      have A2 : Bk W2 (w.heap.size + 1 + 1) 70 [.iface 75 (A8 (pb (k', v'))), .nilIface] := by rw [hW2]; exact A1.set_ 0 _
      have K2 : Bk W2 w.heap.size 24 (c8 k) := by rw [hW2]; exact K1.far (by simp; omega) _
      have V2 : Bk W2 (w.heap.size + 1) 24 (c8 v) := by rw [hW2]; exact V1.far (by simp) _
      have B2 : Below w.heap.size w W2 := by rw [hW2]; exact B1.setCell (p := ⟨w.heap.size + 1 + 1, 0, none⟩) (by simp; omega) _
      have rq := pair_key L2 ⟨hk', hv'⟩
      rw [hW2, hW1, z3, hW0] at rq
      obtain ⟨pp, hpp⟩ : ∃ pp, pp = Pt.lf k' v' := ⟨_, rfl⟩
      have hput : pp.put k v (f + 1) d = if kbit k d then (Pt.put k v f (d + 1) (if kbit k' d then .lf k' v' else .e)).map (.nd (if kbit k' d then .e else .lf k' v')) else (Pt.put k v f (d + 1) (if kbit k' d then .e else .lf k' v')).map (fun x => .nd x (if kbit k' d then .lf k' v' else .e)) := by rw [hpp]; simp only [Pt.put, if_neg e]
      have hval : pp.val = .iface 75 (A8 (pb (k', v'))) := by rw [hpp]; rfl
      rw [← hpp, hval]
      have Hput1 := Lib.hid hput
      clear hput hval hpp
      go_enter Try.func24, Try.ntmps24
      go_wp2_with fail
      rw [← hW0, ← z3, ← hW1, z3, ← hW2]
      clear rk rp rp2 rq d0 f0 hcan hW2 hW1 hW0 L1 K1 V1 A1 B1 B01 B0 K0 V0 A0 z3 e hne
      refine (wbit_any k' d hk' hd W2).mono ?_
      rintro e W3 ⟨rfl, h3⟩
      have L3 := L2.below h3 L2.lt
      have A3 := A2.below h3 A2.lt
      have K3 := K2.below h3 K2.lt
      have V3 := V2.below h3 V2.lt
      have B3 := below_two B2 h3 B2.size
      clear h3 L2 A2 K2 V2 B2
      have hval : (Pt.lf k' v').val = .iface 75 (A8 (pb (k', v'))) := rfl
      have hbits := ok.2.2
      obtain ⟨gA, hgA⟩ : ∃ x, x = w.heap.size + 1 + 1 := ⟨_, rfl⟩
      rw [← hgA] at L3 A3 ⊢
      have hgw : w.heap.size + 1 < gA := by omega
      clear hgA
      cases hb' : kbit k' d
      · have oka : (Pt.lf k' v').Ok (d + 1) (upd P d false) := ⟨hk', hv', upd_way hbits hb'⟩
        have okb : Pt.e.Ok (d + 1) (upd P d true) := trivial
        have hput : pp.put k v (f + 1) d = if kbit k d then (Pt.put k v f (d + 1) .e).map (.nd (.lf k' v')) else (Pt.put k v f (d + 1) (.lf k' v')).map (fun x => .nd x .e) := by rw [Hput1.out, hb']; rfl
        have Hput := Lib.hid hput
        have rk : rowAt W3 ⟨w.heap.size, 0, none⟩ 32 = some (c8 k) := by have := K3.rows; rwa [length_c8, hk] at this
        clear Hput1 hput
        go_wp2_with fail
        clear rk
        obtain ⟨WT, hWT⟩ : ∃ x, x = W3 := ⟨_, rfl⟩
        have AT : Bk WT gA 70 [(Pt.lf k' v').val, Pt.e.val] := by rw [hWT]; exact A3
        have KT : Bk WT w.heap.size 24 (c8 k) := by rw [hWT]; exact K3
        have VT : Bk WT (w.heap.size + 1) 24 (c8 v) := by rw [hWT]; exact V3
        have BT : Below w.heap.size w WT := by rw [hWT]; exact B3
        rw [← hWT]
        clear hWT A3 K3 V3 B3 L3
        rw [← hval]
        clear hval hbits
        refine (wbit_any k d hk hd WT).mono ?_
        rintro e W5 ⟨rfl, h5⟩
        have A5 := AT.below h5 AT.lt
        have K5 := KT.below h5 KT.lt
        have V5 := VT.below h5 VT.lt
        have B5 := below_two BT h5 BT.size
        have f0 := A5.frozen 0
        have f1 := A5.frozen 1
        clear h5 AT KT VT BT
        cases hbit : kbit k d
        · have hput2 : pp.put k v (f + 1) d = (Pt.put k v f (d + 1) (Pt.lf k' v')).map (fun x => .nd x (Pt.e)) := by rw [Hput.out, hbit]; rfl
          have Hput2 := Lib.hid hput2
          clear hput2
          go_wp2_with fail
          have S0 : Below W5.heap.size W5 W5.drew := (Below.refl _ _).drew
          refine held_begin (fun W => Below W5.heap.size W5 W) (by kernel_rfl) ?_
          refine held_quiet (A := ?Afalse1f) [0, 1, 2, 3, 4, 5, 6] (by kernel_rfl) (by kernel_rfl) rfl (by kernel_rfl) (by kernel_rfl) S0 (h := fun W hW => ?hfalse1f) (hr := ?rfalse1f)
          case hfalse1f =>
            have c0 : W.cell? ⟨gA, 0, none⟩ = some (Pt.lf k' v').val := (A5.below hW A5.lt).at_ rfl
            have rk : rowAt W ⟨w.heap.size, 0, none⟩ 32 = some (c8 k) := by have := (K5.below hW K5.lt).rows; rwa [length_c8, hk] at this
            have rv : rowAt W ⟨w.heap.size + 1, 0, none⟩ 32 = some (c8 v) := by have := (V5.below hW V5.lt).rows; rwa [length_c8, hv] at this
            simp only [pick, List.getElem?_cons_zero, List.getElem?_cons_succ]
            repeat (go_big_quiet_step (fail))
            refine wpQuiet_nil ?_
            rfl
          case rfalse1f =>
            refine held_one 7 (by kernel_rfl) (by rfl) (by rfl) (fun Q' hQ' => ?_)
            dsimp only [bare]
            go_wp2_with fail
            rw [show (d : Int) + 1 = ((d + 1 : Nat) : Int) from by omega]
            refine (ih (d + 1) (Pt.lf k' v') (upd P d false) _ (by omega) oka (upd_way ha hbit)).mono ?_
            rintro e W6 ⟨q, n, rfl, hres, h6⟩
            have S6 := below_two S0 h6 S0.size
            have A6 := A5.below S6 A5.lt
            have B6 := below_two B5 S6 B5.size
            have f0 := A6.frozen 0
            have c0 := A6.at_ (i := 0) rfl
            go_wp2_with fail
            refine hQ' _ _ S6 ?_
            clear hQ'
            refine held_quiet (A := ?Afalse2f) [8, 9, 10] (by kernel_rfl) (by kernel_rfl) rfl (by kernel_rfl) (by kernel_rfl) S6 (h := fun W hW => ?hfalse2f) (hr := ?rfalse2f)
            case hfalse2f =>
              simp only [List.append_eq, List.nil_append, List.cons_append, pick, List.getElem?_cons_zero, List.getElem?_cons_succ]
              repeat (go_big_quiet_step (fail))
              refine wpQuiet_nil ?_
              rfl
            case rfalse2f =>
              refine held_one 11 (by kernel_rfl) (by rfl) (by rfl) (fun Q' hQ' => ?_)
              dsimp only [bare]
              go_wp2_with fail
              refine hQ' _ _ S6 ?_
              clear hQ'
              refine held_one 12 (by kernel_rfl) (by rfl) (by rfl) (fun Q' hQ' => ?_)
              dsimp only [bare]
              go_wp2_with fail
              refine hQ' _ _ S6 ?_
              clear hQ'
              refine held_end (by kernel_rfl) ?_
              have A7 : Bk (W6.setCell ⟨gA, 0, none⟩ q.val) gA 70 [q.val, (Pt.e).val] := A6.set_ 0 q.val
              have d0 := A7.at_ (i := 0) rfl
              have d1 := A7.at_ (i := 1) rfl
              clear A6 A7 S6
              rcases q.form with hq | ⟨tq, xq, hq⟩
              all_goals
                rw [hq] at d0 d1 ⊢
                have Hq := Lib.hid hq
                clear hq
                go_wp2_with fail
                refine bodyPost_ret (results_two rfl (ResAt.tmp rfl) (ResAt.tmp rfl)) rfl ⟨.nd q (Pt.e), n, by simp only [Pt.val, Hq.out]; rfl, ?_, B6.setCell (p := ⟨gA, 0, none⟩) (by simp; omega) _⟩
                rw [Hput2.out]
                revert hres
                cases Pt.put k v f (d + 1) (Pt.lf k' v') with
                | none => exact fun h => h
                | some t => rintro ⟨rfl, h⟩; exact ⟨rfl, h⟩
        · have hput2 : pp.put k v (f + 1) d = (Pt.put k v f (d + 1) (Pt.e)).map (.nd (Pt.lf k' v')) := by rw [Hput.out, hbit]; rfl
          have Hput2 := Lib.hid hput2
          clear hput2
          go_wp2_with fail
          have S0 : Below W5.heap.size W5 W5.drew := (Below.refl _ _).drew
          refine held_begin (fun W => Below W5.heap.size W5 W) (by kernel_rfl) ?_
          refine held_quiet (A := ?Atrue1f) [0, 1, 2, 3, 4, 5, 6] (by kernel_rfl) (by kernel_rfl) rfl (by kernel_rfl) (by kernel_rfl) S0 (h := fun W hW => ?htrue1f) (hr := ?rtrue1f)
          case htrue1f =>
            have c0 : W.cell? ⟨gA, 1, none⟩ = some (Pt.e).val := (A5.below hW A5.lt).at_ rfl
            have rk : rowAt W ⟨w.heap.size, 0, none⟩ 32 = some (c8 k) := by have := (K5.below hW K5.lt).rows; rwa [length_c8, hk] at this
            have rv : rowAt W ⟨w.heap.size + 1, 0, none⟩ 32 = some (c8 v) := by have := (V5.below hW V5.lt).rows; rwa [length_c8, hv] at this
            simp only [pick, List.getElem?_cons_zero, List.getElem?_cons_succ]
            repeat (go_big_quiet_step (fail))
            refine wpQuiet_nil ?_
            rfl
          case rtrue1f =>
            refine held_one 7 (by kernel_rfl) (by rfl) (by rfl) (fun Q' hQ' => ?_)
            dsimp only [bare]
            go_wp2_with fail
            rw [show (d : Int) + 1 = ((d + 1 : Nat) : Int) from by omega]
            refine (ih (d + 1) (Pt.e) (upd P d true) _ (by omega) okb (upd_way ha hbit)).mono ?_
            rintro e W6 ⟨q, n, rfl, hres, h6⟩
            have S6 := below_two S0 h6 S0.size
            have A6 := A5.below S6 A5.lt
            have B6 := below_two B5 S6 B5.size
            have f0 := A6.frozen 1
            have c0 := A6.at_ (i := 1) rfl
            go_wp2_with fail
            refine hQ' _ _ S6 ?_
            clear hQ'
            refine held_quiet (A := ?Atrue2f) [8, 9, 10] (by kernel_rfl) (by kernel_rfl) rfl (by kernel_rfl) (by kernel_rfl) S6 (h := fun W hW => ?htrue2f) (hr := ?rtrue2f)
            case htrue2f =>
              simp only [List.append_eq, List.nil_append, List.cons_append, pick, List.getElem?_cons_zero, List.getElem?_cons_succ]
              repeat (go_big_quiet_step (fail))
              refine wpQuiet_nil ?_
              rfl
            case rtrue2f =>
              refine held_one 11 (by kernel_rfl) (by rfl) (by rfl) (fun Q' hQ' => ?_)
              dsimp only [bare]
              go_wp2_with fail
              refine hQ' _ _ S6 ?_
              clear hQ'
              refine held_one 12 (by kernel_rfl) (by rfl) (by rfl) (fun Q' hQ' => ?_)
              dsimp only [bare]
              go_wp2_with fail
              refine hQ' _ _ S6 ?_
              clear hQ'
              refine held_end (by kernel_rfl) ?_
              have A7 : Bk (W6.setCell ⟨gA, 1, none⟩ q.val) gA 70 [(Pt.lf k' v').val, q.val] := A6.set_ 1 q.val
              have d0 := A7.at_ (i := 0) rfl
              have d1 := A7.at_ (i := 1) rfl
              clear A6 A7 S6
              rcases q.form with hq | ⟨tq, xq, hq⟩
              all_goals
                rw [hq] at d0 d1 ⊢
                have Hq := Lib.hid hq
                clear hq
                go_wp2_with fail
                refine bodyPost_ret (results_two rfl (ResAt.tmp rfl) (ResAt.tmp rfl)) rfl ⟨.nd (Pt.lf k' v') q, n, by simp only [Pt.val, Hq.out]; rfl, ?_, B6.setCell (p := ⟨gA, 1, none⟩) (by simp; omega) _⟩
                rw [Hput2.out]
                revert hres
                cases Pt.put k v f (d + 1) (Pt.e) with
                | none => exact fun h => h
                | some t => rintro ⟨rfl, h⟩; exact ⟨rfl, h⟩

      · have oka : Pt.e.Ok (d + 1) (upd P d false) := trivial
        have okb : (Pt.lf k' v').Ok (d + 1) (upd P d true) := ⟨hk', hv', upd_way hbits hb'⟩
        have hput : pp.put k v (f + 1) d = if kbit k d then (Pt.put k v f (d + 1) (.lf k' v')).map (.nd .e) else (Pt.put k v f (d + 1) .e).map (fun x => .nd x (.lf k' v')) := by rw [Hput1.out, hb']; rfl
        have Hput := Lib.hid hput
        clear Hput1 hput
        go_wp2_with fail
        have S0 : Bk W3.drew (gA + 1) 75 (c8 (pb (k', v'))) := L3.drew
        have e0 := A3.at_ (i := 0) rfl
        have e1 := A3.at_ (i := 1) rfl
        have f0 := A3.frozen 0
        have f1 := A3.frozen 1
        have z3' := A3.lt
        refine held_begin (fun W => Bk W (gA + 1) 75 (c8 (pb (k', v')))) (by kernel_rfl) ?_
        refine held_quiet (A := ?A15) [0, 1, 2] (by kernel_rfl) (by kernel_rfl) rfl (by kernel_rfl) (by kernel_rfl) S0 (h := fun W hW => ?h15) (hr := ?r15)
        case h15 =>
          have rp := pair_all hW ⟨hk', hv'⟩
          simp only [pick, List.getElem?_cons_zero, List.getElem?_cons_succ]
          repeat (go_big_quiet_step (fail))
          refine wpQuiet_nil ?_
          rfl
        case r15 =>
          refine held_one 3 (by kernel_rfl) (by rfl) (by rfl) (fun Q' hQ' => ?_)
          dsimp only [bare]
          go_wp2_with fail
          have L4 : Bk (W3.drew.setCell ⟨gA, 0, none⟩ .nilIface) (gA + 1) 75 (c8 (pb (k', v'))) := L3.drew.far (by simp) _
          have A4 : Bk (W3.drew.setCell ⟨gA, 0, none⟩ .nilIface) gA 70 [.nilIface, .nilIface] := A3.drew.set_ 0 .nilIface
          refine hQ' _ _ L4 ?_
          clear hQ'
          obtain ⟨W4, hW4⟩ : ∃ x, x = W3.drew.setCell ⟨gA, 0, none⟩ .nilIface := ⟨_, rfl⟩
          change HeldAt _ _ _ _ _ _ (W3.drew.setCell ⟨gA, 0, none⟩ .nilIface)
          have K4 : Bk W4 w.heap.size 24 (c8 k) := by rw [hW4]; exact K3.drew.far (by simp; omega) _
          have V4 : Bk W4 (w.heap.size + 1) 24 (c8 v) := by rw [hW4]; exact V3.drew.far (by simp; omega) _
          have B4 : Below w.heap.size w W4 := by rw [hW4]; exact B3.drew.setCell (p := ⟨gA, 0, none⟩) (by simp; omega) _
          rw [← hW4] at L4 A4 ⊢
          clear hW4 L3 A3 K3 V3 B3 S0 e0 e1 f0 f1
          refine held_one 4 (by kernel_rfl) (by rfl) (by rfl) (fun Q' hQ' => ?_)
          dsimp only [bare]
          go_wp2_with fail
          refine hQ' _ _ L4 ?_
          clear hQ'
          have e1 := A4.at_ (i := 1) rfl
          have f1 := A4.frozen 1
          refine held_one 5 (by kernel_rfl) (by rfl) (by rfl) (fun Q' hQ' => ?_)
          dsimp only [bare]
          go_wp2_with fail
          refine hQ' _ _ (L4.far (by simp) _) ?_
          clear hQ'
          obtain ⟨WT, hWT⟩ : ∃ x, x = W4.setCell ⟨gA, 1, none⟩ (.iface 75 (A8 (pb (k', v')))) := ⟨_, rfl⟩
          have AT : Bk WT gA 70 [Pt.e.val, (Pt.lf k' v').val] := by rw [hWT]; exact A4.set_ 1 _
          have KT : Bk WT w.heap.size 24 (c8 k) := by rw [hWT]; exact K4.far (by simp; omega) _
          have VT : Bk WT (w.heap.size + 1) 24 (c8 v) := by rw [hWT]; exact V4.far (by simp; omega) _
          have BT : Below w.heap.size w WT := by rw [hWT]; exact B4.setCell (p := ⟨gA, 1, none⟩) (by simp; omega) _
          rw [← hWT]
          clear hWT L4 A4 K4 V4 B4 e1 f1
          refine held_end (by kernel_rfl) ?_
          have rk : rowAt WT ⟨w.heap.size, 0, none⟩ 32 = some (c8 k) := by have := KT.rows; rwa [length_c8, hk] at this
          go_wp2_with fail
          clear rk
          rw [← hval]
          clear hval hbits
          refine (wbit_any k d hk hd WT).mono ?_
          rintro e W5 ⟨rfl, h5⟩
          have A5 := AT.below h5 AT.lt
          have K5 := KT.below h5 KT.lt
          have V5 := VT.below h5 VT.lt
          have B5 := below_two BT h5 BT.size
          have f0 := A5.frozen 0
          have f1 := A5.frozen 1
          clear h5 AT KT VT BT
          cases hbit : kbit k d
          · have hput2 : pp.put k v (f + 1) d = (Pt.put k v f (d + 1) (Pt.e)).map (fun x => .nd x (Pt.lf k' v')) := by rw [Hput.out, hbit]; rfl
            have Hput2 := Lib.hid hput2
            clear hput2
            go_wp2_with fail
            have S0 : Below W5.heap.size W5 W5.drew := (Below.refl _ _).drew
            refine held_begin (fun W => Below W5.heap.size W5 W) (by kernel_rfl) ?_
            refine held_quiet (A := ?Afalse1t) [0, 1, 2, 3, 4, 5, 6] (by kernel_rfl) (by kernel_rfl) rfl (by kernel_rfl) (by kernel_rfl) S0 (h := fun W hW => ?hfalse1t) (hr := ?rfalse1t)
            case hfalse1t =>
              have c0 : W.cell? ⟨gA, 0, none⟩ = some (Pt.e).val := (A5.below hW A5.lt).at_ rfl
              have rk : rowAt W ⟨w.heap.size, 0, none⟩ 32 = some (c8 k) := by have := (K5.below hW K5.lt).rows; rwa [length_c8, hk] at this
              have rv : rowAt W ⟨w.heap.size + 1, 0, none⟩ 32 = some (c8 v) := by have := (V5.below hW V5.lt).rows; rwa [length_c8, hv] at this
              simp only [pick, List.getElem?_cons_zero, List.getElem?_cons_succ]
              repeat (go_big_quiet_step (fail))
              refine wpQuiet_nil ?_
              rfl
            case rfalse1t =>
              refine held_one 7 (by kernel_rfl) (by rfl) (by rfl) (fun Q' hQ' => ?_)
              dsimp only [bare]
              go_wp2_with fail
              rw [show (d : Int) + 1 = ((d + 1 : Nat) : Int) from by omega]
              refine (ih (d + 1) (Pt.e) (upd P d false) _ (by omega) oka (upd_way ha hbit)).mono ?_
              rintro e W6 ⟨q, n, rfl, hres, h6⟩
              have S6 := below_two S0 h6 S0.size
              have A6 := A5.below S6 A5.lt
              have B6 := below_two B5 S6 B5.size
              have f0 := A6.frozen 0
              have c0 := A6.at_ (i := 0) rfl
              go_wp2_with fail
              refine hQ' _ _ S6 ?_
              clear hQ'
              refine held_quiet (A := ?Afalse2t) [8, 9, 10] (by kernel_rfl) (by kernel_rfl) rfl (by kernel_rfl) (by kernel_rfl) S6 (h := fun W hW => ?hfalse2t) (hr := ?rfalse2t)
              case hfalse2t =>
                simp only [List.append_eq, List.nil_append, List.cons_append, pick, List.getElem?_cons_zero, List.getElem?_cons_succ]
                repeat (go_big_quiet_step (fail))
                refine wpQuiet_nil ?_
                rfl
              case rfalse2t =>
                refine held_one 11 (by kernel_rfl) (by rfl) (by rfl) (fun Q' hQ' => ?_)
                dsimp only [bare]
                go_wp2_with fail
                refine hQ' _ _ S6 ?_
                clear hQ'
                refine held_one 12 (by kernel_rfl) (by rfl) (by rfl) (fun Q' hQ' => ?_)
                dsimp only [bare]
                go_wp2_with fail
                refine hQ' _ _ S6 ?_
                clear hQ'
                refine held_end (by kernel_rfl) ?_
                have A7 : Bk (W6.setCell ⟨gA, 0, none⟩ q.val) gA 70 [q.val, (Pt.lf k' v').val] := A6.set_ 0 q.val
                have d0 := A7.at_ (i := 0) rfl
                have d1 := A7.at_ (i := 1) rfl
                clear A6 A7 S6
                rcases q.form with hq | ⟨tq, xq, hq⟩
                all_goals
                  rw [hq] at d0 d1 ⊢
                  have Hq := Lib.hid hq
                  clear hq
                  go_wp2_with fail
                  refine bodyPost_ret (results_two rfl (ResAt.tmp rfl) (ResAt.tmp rfl)) rfl ⟨.nd q (Pt.lf k' v'), n, by simp only [Pt.val, Hq.out]; rfl, ?_, B6.setCell (p := ⟨gA, 0, none⟩) (by simp; omega) _⟩
                  rw [Hput2.out]
                  revert hres
                  cases Pt.put k v f (d + 1) (Pt.e) with
                  | none => exact fun h => h
                  | some t => rintro ⟨rfl, h⟩; exact ⟨rfl, h⟩
          · have hput2 : pp.put k v (f + 1) d = (Pt.put k v f (d + 1) (Pt.lf k' v')).map (.nd (Pt.e)) := by rw [Hput.out, hbit]; rfl
            have Hput2 := Lib.hid hput2
            clear hput2
            go_wp2_with fail
            have S0 : Below W5.heap.size W5 W5.drew := (Below.refl _ _).drew
            refine held_begin (fun W => Below W5.heap.size W5 W) (by kernel_rfl) ?_
            refine held_quiet (A := ?Atrue1t) [0, 1, 2, 3, 4, 5, 6] (by kernel_rfl) (by kernel_rfl) rfl (by kernel_rfl) (by kernel_rfl) S0 (h := fun W hW => ?htrue1t) (hr := ?rtrue1t)
            case htrue1t =>
              have c0 : W.cell? ⟨gA, 1, none⟩ = some (Pt.lf k' v').val := (A5.below hW A5.lt).at_ rfl
              have rk : rowAt W ⟨w.heap.size, 0, none⟩ 32 = some (c8 k) := by have := (K5.below hW K5.lt).rows; rwa [length_c8, hk] at this
              have rv : rowAt W ⟨w.heap.size + 1, 0, none⟩ 32 = some (c8 v) := by have := (V5.below hW V5.lt).rows; rwa [length_c8, hv] at this
              simp only [pick, List.getElem?_cons_zero, List.getElem?_cons_succ]
              repeat (go_big_quiet_step (fail))
              refine wpQuiet_nil ?_
              rfl
            case rtrue1t =>
              refine held_one 7 (by kernel_rfl) (by rfl) (by rfl) (fun Q' hQ' => ?_)
              dsimp only [bare]
              go_wp2_with fail
              rw [show (d : Int) + 1 = ((d + 1 : Nat) : Int) from by omega]
              refine (ih (d + 1) (Pt.lf k' v') (upd P d true) _ (by omega) okb (upd_way ha hbit)).mono ?_
              rintro e W6 ⟨q, n, rfl, hres, h6⟩
              have S6 := below_two S0 h6 S0.size
              have A6 := A5.below S6 A5.lt
              have B6 := below_two B5 S6 B5.size
              have f0 := A6.frozen 1
              have c0 := A6.at_ (i := 1) rfl
              go_wp2_with fail
              refine hQ' _ _ S6 ?_
              clear hQ'
              refine held_quiet (A := ?Atrue2t) [8, 9, 10] (by kernel_rfl) (by kernel_rfl) rfl (by kernel_rfl) (by kernel_rfl) S6 (h := fun W hW => ?htrue2t) (hr := ?rtrue2t)
              case htrue2t =>
                simp only [List.append_eq, List.nil_append, List.cons_append, pick, List.getElem?_cons_zero, List.getElem?_cons_succ]
                repeat (go_big_quiet_step (fail))
                refine wpQuiet_nil ?_
                rfl
              case rtrue2t =>
                refine held_one 11 (by kernel_rfl) (by rfl) (by rfl) (fun Q' hQ' => ?_)
                dsimp only [bare]
                go_wp2_with fail
                refine hQ' _ _ S6 ?_
                clear hQ'
                refine held_one 12 (by kernel_rfl) (by rfl) (by rfl) (fun Q' hQ' => ?_)
                dsimp only [bare]
                go_wp2_with fail
                refine hQ' _ _ S6 ?_
                clear hQ'
                refine held_end (by kernel_rfl) ?_
                have A7 : Bk (W6.setCell ⟨gA, 1, none⟩ q.val) gA 70 [(Pt.e).val, q.val] := A6.set_ 1 q.val
                have d0 := A7.at_ (i := 0) rfl
                have d1 := A7.at_ (i := 1) rfl
                clear A6 A7 S6
                rcases q.form with hq | ⟨tq, xq, hq⟩
                all_goals
                  rw [hq] at d0 d1 ⊢
                  have Hq := Lib.hid hq
                  clear hq
                  go_wp2_with fail
                  refine bodyPost_ret (results_two rfl (ResAt.tmp rfl) (ResAt.tmp rfl)) rfl ⟨.nd (Pt.e) q, n, by simp only [Pt.val, Hq.out]; rfl, ?_, B6.setCell (p := ⟨gA, 1, none⟩) (by simp; omega) _⟩
                  rw [Hput2.out]
                  revert hres
                  cases Pt.put k v f (d + 1) (Pt.lf k' v') with
                  | none => exact fun h => h
                  | some t => rintro ⟨rfl, h⟩; exact ⟨rfl, h⟩

end Go.Proofs.Ytlegpkdighoflaa
