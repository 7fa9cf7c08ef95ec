/- Pairs compared. -/
import Derived.Test.YtlegpkdighoflaaMO
import Derived.Laws.StructEq
set_option linter.unusedVariables false
set_option linter.unusedSimpArgs false
namespace Go.Proofs.Ytlegpkdighoflaa
open Go Go.RowKit Sh
/-! pairs compared -/
theorem fieldsL : (Try.prog.fieldsOf 26).toList = [pairF0, pairF1] := by kernel_rfl
theorem fieldsE : Try.prog.underlying 26 = some (.struct (Try.prog.fieldsOf 26)) := by kernel_rfl
theorem pf0 : (pairF0.name, pairF0.type, pairF0.offset) = ("Key", 24, 0) := by kernel_rfl
theorem pf1 : (pairF1.name, pairF1.type, pairF1.offset) = ("Value", 24, 32) := by kernel_rfl
theorem run_part (w : World) (l : List UInt8) (o : Nat) (h : o + 32 ≤ l.length) : (part 24 (c8 l).toArray o).run Try.prog w = .ok (A8 ((l.drop o).take 32)) w := by
  have hi : (Try.prog.info? 24).map (·.size) = some 32 := info_h32
  cases hq : Try.prog.info? 24 with
  | none => simp [hq] at hi
  | some j =>
    have hj : j.size = 32 := by simpa [hq] using hi
    have e : (c8 l).toArray.extract o (o + 32) = (c8 ((l.drop o).take 32)).toArray := by
      apply Array.ext'
      simp [c8, List.extract_eq_take_drop, List.map_take, List.map_drop]
    unfold part isAgg
    simp only [Sem.run_bind, run_underlying Try.underlying24, Result.andThen_ok, Sem.run_pure, if_true, sizeOf, typeInfo]
    simp [hq, hj, e, A8]
    simp [c8, List.map_take, List.map_drop]
theorem eqFields_two {P : Program} (w : World) (d : Nat) (xs ys : Array Value) (f0 f1 : Field) (a0 b0 a1 b1 : Value) (r0 r1 : Bool) (n0 : f0.name ≠ "_") (n1 : f1.name ≠ "_")
    (p0 : (part f0.type xs f0.offset).run P w = .ok a0 w) (q0 : (part f0.type ys f0.offset).run P w = .ok b0 w) (e0 : (Op.equalIn d f0.type a0 b0).run P w = .ok r0 w)
    (p1 : (part f1.type xs f1.offset).run P w = .ok a1 w) (q1 : (part f1.type ys f1.offset).run P w = .ok b1 w) (e1 : (Op.equalIn d f1.type a1 b1).run P w = .ok r1 w) : (Op.eqFields d xs ys [f0, f1]).run P w = .ok (r0 && r1) w := by
  unfold Op.eqFields
  rw [if_pos n0]
  simp only [Sem.run_bind, p0, q0, e0, Result.andThen_ok]
  cases r0
  · simp
  · simp only [Bool.not_true, Bool.false_eq_true, if_false]
    unfold Op.eqFields
    rw [if_pos n1]
    simp only [Sem.run_bind, p1, q1, e1, Result.andThen_ok]
    cases r1
    · simp
    · simp [Op.eqFields]
theorem pb_beq {p q : Pr} (hp : PrOk p) (hq : PrOk q) : (pb p == pb q) = ((p.1 == q.1) && (p.2 == q.2)) := by
  rw [Bool.eq_iff_iff]
  simp only [beq_iff_eq, Bool.and_eq_true, pb]
  constructor
  · intro h
    exact List.append_inj h (by rw [hp.1, hq.1])
  · rintro ⟨h1, h2⟩; rw [h1, h2]
theorem size_u8 (w : World) : (sizeOf 5).run Try.prog w = .ok 1 w := by
  cases hq : Try.prog.info? 5 with
  | none => have := info8; simp [hq] at this
  | some j => have := info8; simp [hq] at this; simp [sizeOf, typeInfo, hq, this]
theorem run_equalIn_h32 (w : World) (d : Nat) (xs ys : List UInt8) (hx : xs.length = 32) (hy : ys.length = 32) : (Op.equalIn (d + 2) 24 (A8 xs) (A8 ys)).run Try.prog w = .ok (xs == ys) w :=
  run_equalIn_bytes (P := Try.prog) w d 24 5 32 Try.underlying24 Try.underlying5 size_u8 xs ys hx hy
theorem part_one (w : World) (r : Pr) (hr : PrOk r) : (part 24 (c8 (pb r)).toArray 0).run Try.prog w = .ok (A8 r.1) w := by
  have h0 := run_part w (pb r) 0 (by rw [hr.len]; omega)
  have k0 : ((pb r).drop 0).take 32 = r.1 := by simp [pb, hr.1]
  exact h0.trans (congrArg (fun l => Result.ok (A8 l) w) k0)
theorem part_two (w : World) (r : Pr) (hr : PrOk r) : (part 24 (c8 (pb r)).toArray 32).run Try.prog w = .ok (A8 r.2) w := by
  have h0 := run_part w (pb r) 32 (by rw [hr.len]; omega)
  have k0 : ((pb r).drop 32).take 32 = r.2 := by simp [pb, hr.1, hr.2, List.take_of_length_le]
  exact h0.trans (congrArg (fun l => Result.ok (A8 l) w) k0)
theorem stood : Try.prog.stoodInHeld 26 = false := by kernel_rfl
theorem run_equalIn_pair (w : World) (d : Nat) (p q : Pr) (hp : PrOk p) (hq : PrOk q) : (Op.equalIn (d + 3) 26 (A8 (pb p)) (A8 (pb q))).run Try.prog w = .ok (pb p == pb q) w := by
  have e0 := pf0
  have e1 := pf1
  simp only [Prod.mk.injEq] at e0 e1
  obtain ⟨n0, t0, o0⟩ := e0
  obtain ⟨n1, t1, o1⟩ := e1
  rw [pb_beq hp hq]
  refine (run_equalIn_struct (P := Try.prog) w (d + 2) 26 (c8 (pb p)).toArray (c8 (pb q)).toArray fieldsE stood).trans ?_
  rw [fieldsL]
  refine eqFields_two w (d + 2) _ _ pairF0 pairF1 (A8 p.1) (A8 q.1) (A8 p.2) (A8 q.2) _ _ (by rw [n0]; decide) (by rw [n1]; decide) ?_ ?_ ?_ ?_ ?_ ?_
  · rw [t0, o0]; exact part_one w p hp
  · rw [t0, o0]; exact part_one w q hq
  · rw [t0]; exact run_equalIn_h32 w d _ _ hp.1 hq.1
  · rw [t1, o1]; exact part_two w p hp
  · rw [t1, o1]; exact part_two w q hq
  · rw [t1]; exact run_equalIn_h32 w d _ _ hp.2 hq.2
theorem pairGuard : Try.prog.eqGuardType Try.prog.depth 26 = false := by kernel_rfl
noncomputable def asPair (v : Value) : Option Pr := match asBytes v with | some l => if l.length = 64 then some (l.take 32, l.drop 32) else none | none => none
theorem asPair_pb (p : Pr) (hp : PrOk p) : asPair (A8 (pb p)) = some p := by
  unfold asPair
  rw [asBytes_A8]
  simp only [hp.len, if_true]
  simp [pb, hp.1]
noncomputable def eqpOp (neg : Bool) (w : World) (raw : Result Next) (a b : Value) : Result Next :=
  match asPair a, asPair b with
  | some p, some q => .ok (.value (.bool (neg != (pb p == pb q)))) w
  | _, _ => raw
@[go_sem] theorem eqpOp_at (neg : Bool) (w : World) (raw : Result Next) (p q : Pr) (hp : PrOk p) (hq : PrOk q) : eqpOp neg w raw (A8 (pb p)) (A8 (pb q)) = .ok (.value (.bool (neg != (pb p == pb q)))) w := by
  unfold eqpOp
  rw [asPair_pb p hp, asPair_pb q hq]
theorem of_asPair {v : Value} {p : Pr} (h : asPair v = some p) : v = A8 (pb p) ∧ PrOk p := by
  unfold asPair at h
  cases hl : asBytes v with
  | none => rw [hl] at h; cases h
  | some l =>
    rw [hl] at h
    simp only at h
    split at h
    · rename_i h64
      injection h with h
      subst h
      refine ⟨?_, by simp [PrOk, h64]⟩
      rw [of_asBytes hl]
      simp [pb]
    · cases h
set_option maxRecDepth 100000 in
@[go_sem ↓ high] theorem neq_pair (w : World) (ρ : Operand → Value) (dst : Option Tmp) (ty : TypeId) (pos : String) (after : Array Edge) (guard : Option (Nat × Bool)) (x y : Operand) (yt : TypeId) :
    (execOp ρ { dst, op := .binOp .neq 26 x y yt, type := ty, pos, after, guard }).run Try.prog w = eqpOp true w (rawOp Try.prog ρ { dst, op := .binOp .neq 26 x y yt, type := ty, pos, after, guard } w) (ρ x) (ρ y) := by
  generalize hv : ρ x = a
  generalize hz : ρ y = b
  unfold eqpOp
  split
  · rename_i p q h1 h2
    obtain ⟨h1, hp⟩ := of_asPair h1
    obtain ⟨h2, hq⟩ := of_asPair h2
    have hgd : (eqGuard .neq 26 x y a b).run Try.prog w = .ok () w := by rw [h1, h2]; exact run_eqGuard_agg (P := Try.prog) w .neq 26 x y _ _ pairGuard
    have e1 : (binOp .neq 26 a b).run Try.prog w = .ok (.bool (!(pb p == pb q))) w := by
      rw [h1, h2, A8, A8, run_neq_struct]
      exact congrArg (fun r : Result Bool => r.andThen fun b w' => Result.ok (Value.bool (!b)) w') (run_equalIn_pair w 9997 p q hp hq)
    simp only [execOp, hv, hz, Sem.run_bind, hgd, Result.andThen_ok, e1, Sem.run_pure]
    simp
  · rfl
end Go.Proofs.Ytlegpkdighoflaa
