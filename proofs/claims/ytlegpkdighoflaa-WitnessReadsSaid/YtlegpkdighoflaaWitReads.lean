/- witanlaw10.WitnessReads answers true. -/
import Derived.Test.YtlegpkdighoflaaRParse
import Derived.Test.YtlegpkdighoflaaRBytes
import Derived.Test.YtlegpkdighoflaaRRoot
import Derived.Test.YtlegpkdighoflaaWitEmpty
import Derived.Test.YtlegpkdighoflaaWitM
set_option linter.unusedVariables false
set_option linter.unusedSimpArgs false
namespace Go.Proofs.Ytlegpkdighoflaa
open Go Go.RowKit Sh
/-- '[]byte(s)'. -/
theorem wpList_bytes8 {P : Program} {ops : Array Oper} {rest : List Oper} {o : Oper} {a : Act} {w : World} {Q : Exit → Act → World → Prop} {s t e : TypeId} {l : List UInt8} (hgd : o.guard = none) (x : Operand) (ho : o.op = .convert s t x)
    (hs : P.underlying s = some .string) (hd : P.underlying t = some (.slice e)) (he : P.underlying e = some (.int .u8)) (hx : a.eval x = S8 l) (hl : l.length ≤ 1000000)
    (h : ∀ u w', By w' 0 w'.heap.size u l → Below w.heap.size w w' → wpList P ops Q rest (a.put o.dst u) w') : wpList P ops Q (o :: rest) a w :=
  wpList_plain hgd fun _ hK => by
    have hr := run_bytes_of_string (P := P) w s t e ⟨l.toArray⟩ hs hd he
    have hsz : (ByteArray.mk l.toArray).size = l.length := by simp [ByteArray.size]
    have hge := grownCap_ge w l.length 0 e
    have hcm : grownCap w l.length 0 e ≤ maxLen := grownCap_le_maxLen w l.length 0 e (by unfold maxLen; omega)
    rw [hsz] at hr
    unfold Oper.wp execOp
    simp only [ho, hx, S8, Sem.run_bind, Sem.run_pure, hr, Result.andThen_ok]
    refine hK _ _ (h _ _ ?_ ?_)
    · refine By.mk_ hge hcm (.inr ⟨w.heap.size, 0, rfl, Nat.zero_le _, by simp, fun j u hj => ?_⟩)
      rw [Nat.zero_add, cell_of_row _ w.heap.size j _ _ _ (heap_alloc_new w.drew _)]
      have hjl := (List.getElem?_eq_some_iff.1 hj).1
      rw [List.length_map] at hjl
      rw [← hj]
      simp [bytesRow, Array.getElem?_append, hjl, v8, n8]
    · exact ((Below.refl _ _).drew).alloc (Nat.le_refl _) _
@[go_sem ↓ high] theorem neq_str (w : World) (ρ : Operand → Value) (dst : Option Tmp) (ty : TypeId) (pos : String) (after : Array Edge) (guard : Option (Nat × Bool)) (x y : Operand) (yt : TypeId) :
    (execOp ρ { dst, op := .binOp .neq 9 x y yt, type := ty, pos, after, guard }).run Try.prog w = eqlS true w (rawOp Try.prog ρ { dst, op := .binOp .neq 9 x y yt, type := ty, pos, after, guard } w) (ρ x) (ρ y) := by
  generalize hx : ρ x = a
  generalize hy : ρ y = b
  unfold eqlS
  split
  · rename_i s t
    simp only [execOp, hx, hy, eqGuard_at_string, binOp_string_neq, toList_data]
    simp
  · rfl
theorem parseB_ok {b : List UInt8} {p : Pt} (h : parseB b = .ok p) : p.bytes = b ∧ p.Ok 0 (wayP []) ∧ p.Tight := by
  unfold parseB at h
  cases hr : rd 256 [] b with
  | error n => rw [hr] at h; cases h
  | ok x =>
    obtain ⟨q, rest⟩ := x
    rw [hr] at h
    cases rest with
    | cons _ _ => cases h
    | nil =>
      injection h with h
      subst h
      obtain ⟨h1, h2, h3⟩ := rd_sound 256 [] b q [] rfl hr
      exact ⟨by rw [h1, List.append_nil], h2, h3⟩
theorem Hs.takesR {w : World} {lo B : Nat} {A : Option Addr} {n c : Nat} {l : List (List UInt8)} (h : Hs w lo B (.slice A n c) l) {k : Nat} (hk : k ≤ n) : (∀ x ∈ l.take k, x.length = 32) ∧ (l.take k).length = k ∧ Rd w lo B A (c8 (l.take k).flatten) := by
  obtain ⟨h0, A', c', hv, h1, h2, h3⟩ := h
  injection hv with e1 e2 e3
  subst e1 e2 e3
  have e : (l.take k).length = k := by simp; omega
  refine ⟨fun x hx => h0 x (List.mem_of_mem_take hx), e, ?_⟩
  have hf : (l.take k).flatten = l.flatten.take (k * 32) := by
    have hl := length_hflat (l := l.take k) fun x hx => h0 x (List.mem_of_mem_take hx)
    rw [e] at hl
    have h4 : l.flatten = (l.take k).flatten ++ (l.drop k).flatten := by rw [← List.flatten_append, List.take_append_drop]
    rw [h4, ← hl, List.take_left]
  rw [hf]
  have := h3.take (k * 32)
  simpa [c8, List.map_take] using this
theorem OwnK.one (w : World) (base : Nat) (hb : base ≤ w.heap.size) {k : List UInt8} (hk : k.length = 32) : OwnK (w.alloc (.cells (c8 k).toArray 24)) base (.slice (some ⟨w.heap.size, 0, none⟩) 1 1) [k] :=
  ⟨by simpa using hk, by simp [hk], .inr ⟨w.heap.size, 1, (c8 k).toArray, rfl, hb, heap_alloc_new w _, Nat.le_refl _, by simp [maxLen], by simp [hk], by simp only [List.toList_toArray, List.flatten_cons, List.flatten_nil, List.append_nil]; rw [List.take_of_length_le (by simp [hk])]⟩⟩
/-- What lies while the keys are gone through. -/
def RdF (w : World) (gQ gP gp gn cp : Nat) (nds : List NV) (q : Pt) (qk qv : List UInt8) (u : Value) (ks : List (List UInt8)) (W : World) : Prop :=
  Bk W gQ 26 (c8 (pb (qk, qv))) ∧ Bk W gP 31 [q.val] ∧ PS W gp gn nds cp ∧ Hs W 0 W.heap.size u ks ∧ Below w.heap.size w W
theorem RdF.more {w : World} {gQ gP gp gn cp : Nat} {nds : List NV} {q : Pt} {qk qv : List UInt8} {u : Value} {ks : List (List UInt8)} {W W' : World} (h : RdF w gQ gP gp gn cp nds q qk qv u ks W) (hb : Below W.heap.size W W') : RdF w gQ gP gp gn cp nds q qk qv u ks W' :=
  ⟨h.1.below hb h.1.lt, h.2.1.below hb h.2.1.lt, h.2.2.1.below hb, (h.2.2.2.1.below hb).more hb.size, below_two h.2.2.2.2 hb h.2.2.2.2.size⟩
set_option maxRecDepth 100000 in
set_option maxHeartbeats 8000000 in
theorem witReads_any (v : Value) (b : List UInt8) (v2 : Value) (H : List (List UInt8)) (qk qv : List UInt8) (w : World) (hv : By w 0 w.heap.size v b) (hH : Hs w 0 w.heap.size v2 H) (hqk : qk.length = 32) (hqv : qv.length = 32) :
    Calls Try.prog 3 #[v, v2, A8 (pb (qk, qv))] w fun e w' => e = .returned (.bool true) ∧ Below w.heap.size w w' := by
  have hl64 : (pb (qk, qv)).length = 64 := PrOk.len ⟨hqk, hqv⟩
  obtain ⟨W0, hW0⟩ : ∃ y, y = w.alloc (Obj.cells (c8 (pb (qk, qv))).toArray 26) := ⟨_, rfl⟩
  have B0 : Below w.heap.size w W0 := by rw [hW0]; exact (Below.refl _ _).alloc (Nat.le_refl _) _
  have Q0 : Bk W0 w.heap.size 26 (c8 (pb (qk, qv))) := by rw [hW0]; exact Bk.new w _ _
  obtain ⟨A1, c1, hv1, hc11, hc12, _⟩ := hv.open_
  obtain ⟨A2, c2, hv2, hc21, hc22⟩ := hH.form
  have HV := Lib.hid hv
  have HH := Lib.hid hH
  clear hv hH
  subst hv1 hv2
  go_enter Try.func3, Try.ntmps3
  go_wp2_with fail
  rw [← hW0]
  clear hW0
  obtain ⟨gQ, hgQ⟩ : ∃ g, g = w.heap.size := ⟨_, rfl⟩
  rw [← hgQ] at Q0 ⊢
  have zgQ : w.heap.size ≤ gQ := by omega
  clear hgQ
  refine (first10 W0).mono ?_
  rintro e w1 ⟨rfl, b1⟩
  have Q1 := Q0.below b1 Q0.lt
  have B1 := below_two B0 b1 B0.size
  clear B0 Q0 b1
  by_cases hlen : b.length ≤ 20000
  case neg =>
    have hg : decide ((b.length : Int) > 20000) = true := decide_eq_true (by omega)
    have hg2 : decide (20000 < (b.length : Int)) = true := decide_eq_true (by omega)
    go_wp2_with fail
    go_ret
    exact ⟨rfl, B1⟩
  have hg : decide ((b.length : Int) > 20000) = false := decide_eq_false (by omega)
  have hg2 : decide (20000 < (b.length : Int)) = false := decide_eq_false (by omega)
  have hs1 : ∀ raw, strOp w1 raw (.slice A1 b.length c1) = .ok (.value (S8 b)) w1 := fun raw => strOp_by (HV.out.below B1) raw
  go_wp2_with fail
  clear hs1
  refine (parse_any (.slice A1 b.length c1) b w1 ((HV.out.below B1).more B1.size)).mono ?_
  rintro e w2 ⟨q, n, rfl, hpr, b2⟩
  have Q2 := Q1.below b2 Q1.lt
  have B2 := below_two B1 b2 B1.size
  obtain ⟨W3, hW3⟩ : ∃ y, y = w2.alloc (Obj.cells #[q.val] 31) := ⟨_, rfl⟩
  have b3 : Below w2.heap.size w2 W3 := by rw [hW3]; exact (Below.refl _ _).alloc (Nat.le_refl _) _
  have P3 : Bk W3 w2.heap.size 31 [q.val] := by rw [hW3]; exact Bk.new w2 _ [_]
  have Q3 := Q2.below b3 Q2.lt
  have B3 := below_two B2 b3 B2.size
  clear Q1 B1 b2 Q2 B2 b3
  have HPR := Lib.hid hpr
  clear hpr
  go_wp2_with (refine wpList_bytes8 rfl _ rfl Try.underlying9 Try.underlying22 Try.underlying5 rfl (by omega) ?_; intro u4 w4 hu4 b4)
  have hu4' : Below W3.heap.size W3 w4 := by rw [hW3]; exact b4
  clear b4 hW3
  obtain ⟨gP, hgP⟩ : ∃ g, g = w2.heap.size := ⟨_, rfl⟩
  rw [← hgP] at P3 ⊢
  clear hgP
  refine (rparse_any u4 b w4 hu4 (by omega)).mono ?_
  rintro e w5 ⟨hres, b5⟩
  have P5 := (P3.below hu4' P3.lt)
  have P6 := P5.below b5 P5.lt
  have Q5 := (Q3.below hu4' Q3.lt)
  have Q6 := Q5.below b5 Q5.lt
  have B5 := below_two B3 hu4' B3.size
  have B6 := below_two B5 b5 B5.size
  clear P3 P5 Q3 Q5 B3 B5 b5 hu4' hu4
  unfold RParseRes at hres
  have hs1 : ∀ raw, strOp w5 raw (.slice A1 b.length c1) = .ok (.value (S8 b)) w5 := fun raw => strOp_by (HV.out.below B6) raw
  cases hp : parseB b with
  | error m =>
    rw [hp] at hres
    obtain ⟨rfl, hm0⟩ := hres
    obtain ⟨rfl, rfl⟩ : q = .e ∧ n = (m : Int) := by have := HPR.out; rw [hp] at this; exact this
    clear hp HPR
    have hm1 : ((m : Int) != 0) = true := by rw [bne_iff_ne]; omega
    have hm2 : ((m : Int) == (m : Int)) = true := by simp
    go_wp2_with fail
    have S0 : Below w5.heap.size w5 w5.drew := (Below.refl _ _).drew
    have zP := P6.lt
    refine held_begin (fun W => Below w5.heap.size w5 W) (by kernel_rfl) ?_
    refine held_quiet (A := ?Aq6) [0, 1, 2, 3, 4, 6] (by kernel_rfl) (by kernel_rfl) rfl (by kernel_rfl) (by kernel_rfl) S0 (h := fun W hW => ?hq6) (hr := ?rq6)
    case hq6 =>
      have p0 : W.cell? ⟨gP, 0, none⟩ = some Pt.e.val := (P6.below hW zP).at_ rfl
      dsimp only [Pt.val] at p0
      simp only [pick, List.getElem?_cons_zero, List.getElem?_cons_succ]
      repeat (go_big_quiet_step (fail))
      refine wpQuiet_nil ?_
      rfl
    case rq6 =>
      refine held_one 5 (by kernel_rfl) (by rfl) (by rfl) (fun Q' hQ' => ?_)
      dsimp only [bare]
      go_wp2_with fail
      refine (proots_any .e trivial w5.drew).mono ?_
      dsimp only [Pt.root]
      rintro e w6 ⟨rfl, b6⟩
      have S6 : Below w5.heap.size w5 w6 := S0.trans b6
      go_wp2_with fail
      refine hQ' _ _ S6 ?_
      clear hQ'
      refine held_quiet (A := ?Aq5) [7, 8, 9, 10] (by kernel_rfl) (by kernel_rfl) rfl (by kernel_rfl) (by kernel_rfl) S6 (h := fun W hW => ?hq5) (hr := ?rq5)
      case hq5 =>
        have p0 : W.cell? ⟨gP, 0, none⟩ = some Pt.e.val := (P6.below hW zP).at_ rfl
        dsimp only [Pt.val] at p0
        simp only [List.append_eq, List.nil_append, List.cons_append, pick, List.getElem?_cons_zero, List.getElem?_cons_succ]
        repeat (go_big_quiet_step (fail))
        refine wpQuiet_nil ?_
        rfl
      case rq5 =>
        refine held_from S6 ?_
        refine held_two 11 13 (by kernel_rfl) (by rfl) (by rfl) (by rfl) (by rfl) (fun Q' hQ' => ?_) (fun Q' hQ' => ?_)
        · dsimp only [bare]
          go_wp2_with fail
          refine (pbytes_any .e trivial (by simp [Pt.bytes]) w6).mono ?_
          rintro e w7 ⟨u7, rfl, O7, b7⟩
          have T7 := below_two S6 b7 S6.size
          have Y7 : By w7 0 w7.heap.size u7 [0] := (O7.by_).less (Nat.zero_le _)
          clear O7
          go_wp2_with fail
          refine hQ' _ _ b7 ?_
          clear hQ'
          refine held_from b7 ?_
          refine held_quiet (A := ?Aq2) [12] (by kernel_rfl) (by kernel_rfl) rfl (by kernel_rfl) (by kernel_rfl) (Below.refl _ _) (h := fun W hW => ?hq2) (hr := ?rq2)
          case hq2 =>
            have hs : ∀ raw, strOp W raw u7 = .ok (.value (S8 [0])) W := fun raw => strOp_by (Y7.below hW) raw
            simp only [List.append_eq, List.nil_append, List.cons_append, pick, List.getElem?_cons_zero, List.getElem?_cons_succ]
            repeat (go_big_quiet_step (fail))
            refine wpQuiet_nil ?_
            rfl
          case rq2 =>
            refine held_one 13 (by kernel_rfl) (by rfl) (by rfl) (fun Q' hQ' => ?_)
            dsimp only [bare]
            go_wp2_with fail
            obtain ⟨W8, hW8⟩ : ∃ y, y = w7.alloc (Obj.cells #[.int .u8 0] 5) := ⟨_, rfl⟩
            have b8 : Below w7.heap.size w7 W8 := by rw [hW8]; exact (Below.refl _ _).alloc (Nat.le_refl _) _
            have Y8 : By W8 0 W8.heap.size (.slice (some ⟨w7.heap.size, 0, none⟩) 1 1) [0] := by rw [hW8]; exact (By.build w7 5 (0, 0) [0] (by simp)).more (by simp)
            obtain ⟨s8, hs8⟩ : ∃ s, s = Value.slice (some ⟨w7.heap.size, 0, none⟩) 1 1 := ⟨_, rfl⟩
            rw [← hs8] at Y8
            rw [← hW8, ← hs8]
            clear hs8 hW8
            have T8 := below_two T7 b8 T7.size
            refine hQ' _ _ b8 ?_
            refine held_from b8 ?_
            clear hQ'
            refine held_quiet (A := ?Aq1) [14, 15, 16] (by kernel_rfl) (by kernel_rfl) rfl (by kernel_rfl) (by kernel_rfl) (Below.refl _ _) (h := fun W hW => ?hq1) (hr := ?rq1)
            case hq1 =>
              have hs : ∀ raw, strOp W raw s8 = .ok (.value (S8 [0])) W := fun raw => strOp_by (Y8.below hW) raw
              simp only [List.append_eq, List.nil_append, List.cons_append, pick, List.getElem?_cons_zero, List.getElem?_cons_succ]
              repeat (go_big_quiet_step (fail))
              refine wpQuiet_nil ?_
              rfl
            case rq1 =>
              refine held_one 17 (by kernel_rfl) (by rfl) (by rfl) (fun Q' hQ' => ?_)
              dsimp only [bare]
              go_wp2_with fail
              refine hQ' _ _ (Below.refl _ _) ?_
              clear hQ'
              refine held_end (by kernel_rfl) ?_
              go_wp2_with fail
              go_ret
              exact ⟨rfl, below_two B6 T8 B6.size⟩
        · dsimp only [bare]
          go_wp2_with fail
          obtain ⟨W7, hW7⟩ : ∃ y, y = w6.alloc (Obj.cells #[.int .u8 0] 5) := ⟨_, rfl⟩
          have b7 : Below w6.heap.size w6 W7 := by rw [hW7]; exact (Below.refl _ _).alloc (Nat.le_refl _) _
          have Y7 : By W7 0 W7.heap.size (.slice (some ⟨w6.heap.size, 0, none⟩) 1 1) [0] := by rw [hW7]; exact (By.build w6 5 (0, 0) [0] (by simp)).more (by simp)
          obtain ⟨s7, hs7⟩ : ∃ s, s = Value.slice (some ⟨w6.heap.size, 0, none⟩) 1 1 := ⟨_, rfl⟩
          rw [← hs7] at Y7
          rw [← hW7, ← hs7]
          clear hs7 hW7
          have T7 := below_two S6 b7 S6.size
          refine hQ' _ _ b7 ?_
          clear hQ'
          refine held_from b7 ?_
          refine held_quiet (A := ?Aq4) [14] (by kernel_rfl) (by kernel_rfl) rfl (by kernel_rfl) (by kernel_rfl) (Below.refl _ _) (h := fun W hW => ?hq4) (hr := ?rq4)
          case hq4 =>
            have hs : ∀ raw, strOp W raw s7 = .ok (.value (S8 [0])) W := fun raw => strOp_by (Y7.below hW) raw
            simp only [List.append_eq, List.nil_append, List.cons_append, pick, List.getElem?_cons_zero, List.getElem?_cons_succ]
            repeat (go_big_quiet_step (fail))
            refine wpQuiet_nil ?_
            rfl
          case rq4 =>
            refine held_one 11 (by kernel_rfl) (by rfl) (by rfl) (fun Q' hQ' => ?_)
            dsimp only [bare]
            go_wp2_with fail
            refine (pbytes_any .e trivial (by simp [Pt.bytes]) W7).mono ?_
            rintro e w8 ⟨u8, rfl, O8, b8⟩
            have T8 := below_two T7 b8 T7.size
            have Y8 : By w8 0 w8.heap.size u8 [0] := (O8.by_).less (Nat.zero_le _)
            clear O8
            go_wp2_with fail
            refine hQ' _ _ b8 ?_
            refine held_from b8 ?_
            clear hQ'
            refine held_quiet (A := ?Aq3) [12, 15, 16] (by kernel_rfl) (by kernel_rfl) rfl (by kernel_rfl) (by kernel_rfl) (Below.refl _ _) (h := fun W hW => ?hq3) (hr := ?rq3)
            case hq3 =>
              have hs : ∀ raw, strOp W raw u8 = .ok (.value (S8 [0])) W := fun raw => strOp_by (Y8.below hW) raw
              simp only [List.append_eq, List.nil_append, List.cons_append, pick, List.getElem?_cons_zero, List.getElem?_cons_succ]
              repeat (go_big_quiet_step (fail))
              refine wpQuiet_nil ?_
              rfl
            case rq3 =>
              refine held_one 17 (by kernel_rfl) (by rfl) (by rfl) (fun Q' hQ' => ?_)
              dsimp only [bare]
              go_wp2_with fail
              refine hQ' _ _ (Below.refl _ _) ?_
              clear hQ'
              refine held_end (by kernel_rfl) ?_
              go_wp2_with fail
              go_ret
              exact ⟨rfl, below_two B6 T8 B6.size⟩
  | ok p =>
    rw [hp] at hres
    obtain ⟨gp, gn, cp, nds, rfl, hnl, hat, hps⟩ := hres
    obtain ⟨rfl, rfl⟩ : q = p ∧ n = 0 := by have := HPR.out; rw [hp] at this; exact this
    obtain ⟨hbb, ok, tight⟩ := parseB_ok hp
    have hqb : (q.bytes == b) = true := by simp [hbb]
    have hlq : q.bytes.length ≤ 20000 := by rw [hbb]; exact hlen
    have hwf := ok.wf
    have hrl := Pt.root_length hwf
    have zP := P6.lt
    have p0 : w5.cell? ⟨gP, 0, none⟩ = some q.val := P6.at_ rfl
    have HBB := Lib.hid hbb
    have HPS := Lib.hid hps
    have HAT := Lib.hid hat
    have HOK := Lib.hid ok
    clear hp HPR hbb hps hat ok tight
    go_wp2_with fail
    refine (pbytes_any q hwf (by omega) w5).mono ?_
    rintro e w6 ⟨u6, rfl, O6, b6⟩
    have Y6 : By w6 0 w6.heap.size u6 q.bytes := (O6.by_).less (Nat.zero_le _)
    have hs2 : ∀ raw, strOp w6 raw u6 = .ok (.value (S8 q.bytes)) w6 := fun raw => strOp_by Y6 raw
    have P7 := P6.below b6 P6.lt
    have Q7 := Q6.below b6 Q6.lt
    have B7 := below_two B6 b6 B6.size
    have p1 : w6.cell? ⟨gP, 0, none⟩ = some q.val := P7.at_ rfl
    have ps7 := HPS.out.below b6
    clear P6 Q6 B6 O6 Y6 p0 hs1
    go_wp2_with fail
    refine (proots_any q hwf w6).mono ?_
    rintro e w7 ⟨rfl, b7⟩
    have P8 := P7.below b7 P7.lt
    have Q8 := Q7.below b7 Q7.lt
    have B8 := below_two B7 b7 B7.size
    have ps8 := ps7.below b7
    clear P7 Q7 B7 p1 ps7 b6 b7 hs2 HPS
    go_wp2_with fail
    refine (rroot_any gp gn cp nds hnl q hwf 0 w7 HAT.out ps8).mono ?_
    rintro e w8 ⟨rfl, b8⟩
    have P9 := P8.below b8 P8.lt
    have Q9 := Q8.below b8 Q8.lt
    have B9 := below_two B8 b8 B8.size
    have ps9 := ps8.below b8
    clear P8 Q8 B8 ps8 b8
    obtain ⟨kn, hkn⟩ : ∃ kn, kn = min H.length 8 := ⟨_, rfl⟩
    have hmin : minI (H.length : Int) 8 = (kn : Int) := minI_eq (by split <;> omega)
    have hkn1 : kn ≤ H.length := by omega
    have hkn8 : kn ≤ 8 := by omega
    clear hkn
    go_wp2_with fail
    obtain ⟨hk0, hkl, hkr⟩ := (HH.out.below B9).takesR hkn1
    generalize H.take kn = K0 at *
    have hfl := length_hflat hk0
    have zQ := Q9.lt
    have S0 : Below w8.heap.size w8 w8.drew := (Below.refl _ _).drew
    refine held_begin (fun W => Below w8.heap.size w8 W) (by kernel_rfl) ?_
    refine held_quiet (A := ?Aq12) [0, 1, 3, 4, 5, 6, 7, 10] (by kernel_rfl) (by kernel_rfl) rfl (by kernel_rfl) (by kernel_rfl) S0 (h := fun W hW => ?hq12) (hr := ?rq12)
    case hq12 =>
      have rq : rowAt W ⟨gQ, 0, none⟩ 32 = some (c8 qk) := pair_key (Q9.below hW zQ) ⟨hqk, hqv⟩
      simp only [pick, List.getElem?_cons_zero, List.getElem?_cons_succ]
      repeat (go_big_quiet_step (fail))
      refine wpQuiet_nil ?_
      rfl
    case rq12 =>
      refine held_one 2 (by kernel_rfl) (by rfl) (by rfl) (fun Q' hQ' => ?_)
      dsimp only [bare]
      go_wp2_with fail
      obtain ⟨W10, hW10⟩ : ∃ y, y = (w8.alloc (Obj.cells (c8 qk).toArray 24)).drew := ⟨_, rfl⟩
      have b10 : Below w8.heap.size w8 W10 := by rw [hW10]; exact ((Below.refl _ _).alloc (Nat.le_refl _) _).drew
      have O10 : OwnK W10 w8.heap.size (.slice (some ⟨w8.heap.size, 0, none⟩) 1 1) [qk] := by rw [hW10]; exact (OwnK.one w8 w8.heap.size (Nat.le_refl _) hqk).below (below_drewN (Below.refl _ _) 1) (Nat.le_refl _)
      have z10 := b10.size
      rw [← hW10]
      clear hW10
      refine hQ' _ _ b10 ?_
      clear hQ'
      refine held_one 8 (by kernel_rfl) (by rfl) (by rfl) (fun Q' hQ' => ?_)
      dsimp only [bare]
      have hkr10 : Rd W10 0 w.heap.size A2 (c8 K0.flatten) := hkr.below (b10.mono B9.size)
      go_wp2_with (at_builtin; refine appR 23 (A8 (z8 32)) 32 Try.underlying23 infoH (by simp [A8, Value.cells]) (by decide) (by decide) rfl _ _ rfl rfl O10.2 A2 kn c2 rfl (c8 K0.flatten) (by simp [hfl, hkl]) 0 _ hkr10 (by intro u hu; obtain ⟨x, _, rfl⟩ := List.mem_map.1 hu; rfl) (by simp; omega) z10 ?_; intro A4 c4 w11 hc41 hc42 hO4 hb4 hg4 hat4)
      have K11 : OwnK w11 w8.heap.size (.slice A4 (1 + kn) c4) (qk :: K0) := ⟨fun x hx => (List.mem_cons.1 hx).elim (fun h => by rw [h]; exact hqk) (fun h => hk0 x h), by have := hO4; simp only [List.length_cons, List.length_nil, Nat.zero_add] at this; rw [List.length_cons, hkl, Nat.add_comm kn 1, List.flatten_cons]; simpa [c8, List.map_append] using this⟩
      obtain ⟨ks, hks⟩ : ∃ ks, ks = qk :: K0 := ⟨_, rfl⟩
      have hN : 1 + kn = ks.length := by rw [hks]; simp [hkl]; omega
      rw [← hks] at K11
      rw [hN] at K11 ⊢
      have S11 : Below w8.heap.size w8 w11 := b10.trans hb4
      refine hQ' _ _ S11 ?_
      have F11 : RdF w gQ gP gp gn cp nds q qk qv (.slice A4 ks.length c4) ks w11 := ⟨Q9.below S11 zQ, P9.below S11 P9.lt, ps9.below S11, K11.hs.less (Nat.zero_le _), below_two B9 S11 B9.size⟩
      have hks9 : ks.length ≤ 9 := by omega
      clear hQ' hO4 hb4 hg4 hat4 O10 K11 hN hks Q9 P9 ps9 B9 hkr10 hkr b10 z10 hk0 hkl hfl zP zQ hc41 hc42
      refine held_quiet (A := ?Aq11) [9] (by kernel_rfl) (by kernel_rfl) rfl (by kernel_rfl) (by kernel_rfl) S11 (h := fun W hW => ?hq11) (hr := ?rq11)
      case hq11 =>

        simp only [List.append_eq, List.nil_append, List.cons_append, pick, List.getElem?_cons_zero, List.getElem?_cons_succ]
        repeat (go_big_quiet_step (fail))
        refine wpQuiet_nil ?_
        rfl
      case rq11 =>
        refine held_end (by kernel_rfl) ?_
        go_wp2_with fail
        go_loopw [92] (fun t wr => ∃ i : Nat, i ≤ ks.length ∧ t = .int .i64 (i : Int) ∧ RdF w gQ gP gp gn cp nds q qk qv (.slice A4 ks.length c4) ks wr) (fun t _ => ks.length - (intOf t).toNat)
        case atStart => exact ⟨0, by omega, rfl, F11⟩
        case round =>
          clear F11 S11 S0
          obtain ⟨i, hi, rfl, F⟩ := hrel
          obtain ⟨w12, rfl⟩ : ∃ x, x = wr := ⟨_, rfl⟩
          by_cases hlt : i < ks.length
          · obtain ⟨k, hk⟩ : ∃ k, ks[i]? = some k := ⟨_, List.getElem?_eq_getElem hlt⟩
            have hk32 : k.length = 32 := F.2.2.2.1.1 k (List.mem_of_getElem? hk)
            obtain ⟨g, o, cc, hs⟩ := F.2.2.2.1.row
            rcases hs with ⟨hrows, hg0, hgl, hsl, _, _⟩ | hnil
            case inr => rw [hnil] at hlt; simp at hlt
            injection hsl with e1 _ e3
            subst e1 e3
            have hrow := hrows i k hk
            clear hrows
            obtain ⟨W13, hW13⟩ : ∃ y, y = putAt (w12.alloc (Obj.cells (c8 (z8 32)).toArray 24)) ⟨w12.heap.size, 0, none⟩ (c8 k) := ⟨_, rfl⟩
            have K13 : Bk W13 w12.heap.size 24 (c8 k) := by rw [hW13]; exact Bk.fresh w12 _ (by simp [hk32])
            have b13 : Below w12.heap.size w12 W13 := by rw [hW13]; exact below_putAt ((Below.refl _ _).alloc (Nat.le_refl _) _) (Nat.le_refl _) _
            have F13 := F.more b13
            have rk13 := K13.row32' hk32
            have p13 : W13.cell? ⟨gP, 0, none⟩ = some q.val := F13.2.1.at_ rfl
            have hcan := fresh_can w12 24 (z8 32) 32 _ (by simp) rfl
            obtain ⟨u, hu⟩ : ∃ u, u = (q.get k 0).1 := ⟨_, rfl⟩
            obtain ⟨ib, hib⟩ : ∃ x, x = (q.get k 0).2.1 := ⟨_, rfl⟩
            have hu32 : u.length = 32 := by rw [hu]; exact Pt.get_length hwf
            have hge := get_errno (k := k) q 0
            obtain ⟨en, hen⟩ : ∃ x, x = (q.get k 0).2.2 := ⟨_, rfl⟩
            have hgr : q.get k 0 = (u, ib, en) := by rw [hu, hib, hen]
            rw [← hen] at hge
            have hc1 := pget_any k hk32 q hwf HOK.out.dp W13
            have hc2 := fun w14 (h : PS w14 gp gn nds cp) => rget_any k hk32 gp gn cp nds hnl q hwf HOK.out.dp HAT.out w14 h
            rw [hgr] at hc1 hc2
            dsimp only [pgRes, rgRes] at hc1 hc2
            have HC1 := Lib.hid hc1
            have HC2 := Lib.hid hc2
            rw [hW13] at rk13 p13
            clear hk hgr hc1 hc2 hu hib hen F b13
            rcases hge with rfl | rfl
            all_goals
              go_wp2_with fail
              rw [← hW13]
              refine HC1.out.mono ?_
              rintro e w14 ⟨rfl, b14⟩
              have K14 := K13.below b14 K13.lt
              have F14 := F13.more b14
              obtain ⟨gk, hgk⟩ : ∃ g, g = w12.heap.size := ⟨_, rfl⟩
              obtain ⟨W15, hW15⟩ : ∃ y, y = putAt (w14.alloc (Obj.cells (c8 (z8 32)).toArray 24)) ⟨w14.heap.size, 0, none⟩ (c8 u) := ⟨_, rfl⟩
              have U15 : Bk W15 w14.heap.size 24 (c8 u) := by rw [hW15]; exact Bk.fresh w14 _ (by simp [hu32])
              have b15 : Below w14.heap.size w14 W15 := by rw [hW15]; exact below_putAt ((Below.refl _ _).alloc (Nat.le_refl _) _) (Nat.le_refl _) _
              have K15 := K14.below b15 K14.lt
              have F15 := F14.more b15
              rw [← hgk] at K13 K14 K15 ⊢
              have zk : gk < W15.heap.size := K15.lt
              have rk15 := K15.row32' hk32
              have hcan2 := fresh_can w14 24 (z8 32) 32 _ (by simp) rfl
              rw [hW15] at rk15
              clear hgk K13 K14 F13 F14 b14 b15 hW13 HC1 rk13 p13 hcan hrow
              first | rw [show ((100 : Nat) : Int) = 100 from rfl] | rw [show ((0 : Nat) : Int) = 0 from rfl]
              go_wp2_with fail
              rw [← hW15]
              refine (HC2.out W15 F15.2.2.1).mono ?_
              rintro e w16 ⟨rfl, b16⟩
              have U16 := U15.below b16 U15.lt
              have F16 := F15.more b16
              obtain ⟨W17, hW17⟩ : ∃ y, y = putAt (w16.alloc (Obj.cells (c8 (z8 32)).toArray 24)) ⟨w16.heap.size, 0, none⟩ (c8 u) := ⟨_, rfl⟩
              have V17 : Bk W17 w16.heap.size 24 (c8 u) := by rw [hW17]; exact Bk.fresh w16 _ (by simp [hu32])
              have b17 : Below w16.heap.size w16 W17 := by rw [hW17]; exact below_putAt ((Below.refl _ _).alloc (Nat.le_refl _) _) (Nat.le_refl _) _
              have U17 := U16.below b17 U16.lt
              have F17 := F16.more b17
              have ru17 := U17.row32' hu32
              have rv17 := V17.row32' hu32
              have hcan3 := fresh_can w16 24 (z8 32) 32 _ (by simp) rfl
              have hib : (ib != ib) = false := by simp
              rw [hW17] at ru17 rv17
              clear hW15 HC2 rk15 hcan2 K15 zk U15 F15 b16 U16 F16 b17 U17 V17
              go_wp2_with fail
              rw [← hW17]
              go_roundw
              case rel => exact ⟨i + 1, by omega, by go_num, F17⟩
              case measure => simp [intOf]; omega
          · obtain rfl : i = ks.length := by omega
            have rq : rowAt w12 ⟨gQ, 0, none⟩ 32 = some (c8 qk) := pair_key F.1 ⟨hqk, hqv⟩
            obtain ⟨u, hu⟩ : ∃ u, u = (q.get qk 0).1 := ⟨_, rfl⟩
            obtain ⟨ib, hib⟩ : ∃ x, x = (q.get qk 0).2.1 := ⟨_, rfl⟩
            have hu32 : u.length = 32 := by rw [hu]; exact Pt.get_length hwf
            have hge := get_errno (k := qk) q 0
            have hpk := put_known (k := qk) (v := qv) hqk 256 0 q (wayP []) rfl (fun i hi => by omega) HOK.out
            obtain ⟨en, hen⟩ : ∃ x, x = (q.get qk 0).2.2 := ⟨_, rfl⟩
            have hgr : q.get qk 0 = (u, ib, en) := by rw [hu, hib, hen]
            rw [← hen] at hge hpk
            have hc2 := rget_any qk hqk gp gn cp nds hnl q hwf HOK.out.dp HAT.out w12 F.2.2.1
            rw [hgr] at hc2
            dsimp only [rgRes] at hc2
            have HC2 := Lib.hid hc2
            have HPK := Lib.hid hpk
            clear hgr hc2 hpk hu hib hen
            go_wp2_with fail
            refine HC2.out.mono ?_
            rintro e w13 ⟨rfl, b13⟩
            have F13 := F.more b13
            obtain ⟨W14, hW14⟩ : ∃ y, y = putAt (w13.alloc (Obj.cells (c8 (z8 32)).toArray 24)) ⟨w13.heap.size, 0, none⟩ (c8 u) := ⟨_, rfl⟩
            have b14 : Below w13.heap.size w13 W14 := by rw [hW14]; exact below_putAt ((Below.refl _ _).alloc (Nat.le_refl _) _) (Nat.le_refl _) _
            have F14 := F13.more b14
            have hcan := fresh_can w13 24 (z8 32) 32 _ (by simp) rfl
            have rk14 : rowAt W14 ⟨gQ, 0, none⟩ 32 = some (c8 qk) := pair_key F14.1 ⟨hqk, hqv⟩
            have rv14 : rowAt W14 ⟨gQ, 32, none⟩ 32 = some (c8 qv) := pair_val F14.1 ⟨hqk, hqv⟩
            have p14 : W14.cell? ⟨gP, 0, none⟩ = some q.val := F14.2.1.at_ rfl
            rw [hW14] at rk14 rv14 p14
            clear F F13 b13 b14 rq HC2
            go_wp2_with fail
            rw [← hW14]
            refine (pput_any q qk qv hqk hqv (wayP []) HOK.out W14).mono ?_
            rintro e w15 ⟨q', n', rfl, hpp, b15⟩
            have F15 := F14.more b15
            obtain ⟨W16, hW16⟩ : ∃ y, y = w15.alloc (Obj.cells #[q'.val] 31) := ⟨_, rfl⟩
            have b16 : Below w15.heap.size w15 W16 := by rw [hW16]; exact (Below.refl _ _).alloc (Nat.le_refl _) _
            have N16 : Bk W16 w15.heap.size 31 [q'.val] := by rw [hW16]; exact Bk.new w15 _ [_]
            have F16 := F15.more b16
            have HPP := Lib.hid hpp
            clear F14 F15 b15 b16 hpp rk14 rv14 p14 hW14 hcan
            obtain ⟨gN, hgN⟩ : ∃ g, g = w15.heap.size := ⟨_, rfl⟩
            rw [← hgN] at N16
            rcases hge with rfl | rfl
            · obtain ⟨x, hx⟩ : ∃ x, q.put qk qv 256 0 = some x := Option.isSome_iff_exists.1 (HPK.out.2 rfl)
              obtain ⟨rfl, rfl⟩ : x = q' ∧ n' = 0 := by have := HPP.out; rw [hx] at this; exact ⟨this.1.symm ▸ rfl, this.2⟩
              obtain ⟨okx, hlx⟩ := Pt.Ok.put hqk hqv 256 0 q x (wayP []) rfl (fun i hi => by omega) HOK.out hx
              have hrb := rBytes_put (k := qk) (v := qv) hqk 256 0 q x (wayP []) rfl (fun i hi => by omega) HOK.out hx
              have HRB := Lib.hid hrb
              have HOX := Lib.hid okx
              clear HPP hx okx hrb
              go_wp2_with fail
              rw [← hW16, ← hgN]
              clear hW16 hgN
              have zN := N16.lt
              have zQ := F16.1.lt
              have zP := F16.2.1.lt
              have S0 : Below W16.heap.size W16 W16.drew := (Below.refl _ _).drew
              have hxb : x.bytes.length ≤ 100000 := by omega
              refine held_begin (fun W => Below W16.heap.size W16 W) (by kernel_rfl) ?_
              refine held_quiet (A := ?Aq10) [0, 1, 2, 3, 6, 7] (by kernel_rfl) (by kernel_rfl) rfl (by kernel_rfl) (by kernel_rfl) S0 (h := fun W hW => ?hq10) (hr := ?rq10)
              case hq10 =>
                have n0 : W.cell? ⟨gN, 0, none⟩ = some x.val := (N16.below hW zN).at_ rfl
                have r0 : rowAt W ⟨gQ, 0, none⟩ 64 = some (c8 (pb (qk, qv))) := by have := (F16.1.below hW zQ).rows; rwa [length_c8, hl64] at this
                simp only [pick, List.getElem?_cons_zero, List.getElem?_cons_succ]
                repeat (go_big_quiet_step (fail))
                refine wpQuiet_nil ?_
                rfl
              case rq10 =>
                refine held_one 4 (by kernel_rfl) (by rfl) (by rfl) (fun Q' hQ' => ?_)
                dsimp only [bare]
                go_wp2_with fail
                refine (pbytes_any x HOX.out.wf (by omega) W16.drew).mono ?_
                rintro e w17 ⟨u17, rfl, O17, b17⟩
                have T17 : Below W16.heap.size W16 w17 := S0.trans b17
                have Y17 : By w17 0 w17.heap.size u17 x.bytes := (O17.by_).less (Nat.zero_le _)
                clear O17
                go_wp2_with fail
                refine hQ' _ _ T17 ?_
                clear hQ'
                refine held_from T17 ?_
                refine held_quiet (A := ?Aq9) [5] (by kernel_rfl) (by kernel_rfl) rfl (by kernel_rfl) (by kernel_rfl) (Below.refl _ _) (h := fun W hW => ?hq9) (hr := ?rq9)
                case hq9 =>
                  have hs : ∀ raw, strOp W raw u17 = .ok (.value (S8 x.bytes)) W := fun raw => strOp_by (Y17.below hW) raw
                  simp only [List.append_eq, List.nil_append, List.cons_append, pick, List.getElem?_cons_zero, List.getElem?_cons_succ]
                  repeat (go_big_quiet_step (fail))
                  refine wpQuiet_nil ?_
                  rfl
                case rq9 =>
                  refine held_one 8 (by kernel_rfl) (by rfl) (by rfl) (fun Q' hQ' => ?_)
                  dsimp only [bare]
                  go_wp2_with fail
                  have F17 := F16.more T17
                  refine (rbytes_any qk qv hqk hqv gp gn cp nds hnl 256 0 q 0 true (wayP []) w17 rfl HOK.out (fun _ i hi => by omega) HAT.out F17.2.2.1 (by omega)).mono ?_
                  rw [HRB.out]
                  rintro e w18 ⟨u18, rfl, Y18, b18⟩
                  have T18 := below_two T17 b18 T17.size
                  go_wp2_with fail
                  refine hQ' _ _ b18 ?_
                  clear hQ'
                  refine held_from b18 ?_
                  refine held_quiet (A := ?Aq8) [9, 10, 11, 12, 13, 16] (by kernel_rfl) (by kernel_rfl) rfl (by kernel_rfl) (by kernel_rfl) (Below.refl _ _) (h := fun W hW => ?hq8) (hr := ?rq8)
                  case hq8 =>
                    have hs : ∀ raw, strOp W raw u18 = .ok (.value (S8 x.bytes)) W := fun raw => strOp_by (Y18.below hW) raw
                    have p0 : W.cell? ⟨gP, 0, none⟩ = some q.val := (F16.2.1.below (T18.trans (hW.mono T18.size)) zP).at_ rfl
                    simp only [List.append_eq, List.nil_append, List.cons_append, pick, List.getElem?_cons_zero, List.getElem?_cons_succ]
                    repeat (go_big_quiet_step (fail))
                    refine wpQuiet_nil ?_
                    rfl
                  case rq8 =>
                    refine held_one 14 (by kernel_rfl) (by rfl) (by rfl) (fun Q' hQ' => ?_)
                    dsimp only [bare]
                    go_wp2_with fail
                    refine (pbytes_any q hwf (by omega) w18).mono ?_
                    rintro e w19 ⟨u19, rfl, O19, b19⟩
                    have T19 := below_two T18 b19 T18.size
                    have Y19 : By w19 0 w19.heap.size u19 q.bytes := (O19.by_).less (Nat.zero_le _)
                    clear O19
                    go_wp2_with fail
                    refine hQ' _ _ b19 ?_
                    clear hQ'
                    refine held_from b19 ?_
                    refine held_quiet (A := ?Aq7) [15, 17, 18] (by kernel_rfl) (by kernel_rfl) rfl (by kernel_rfl) (by kernel_rfl) (Below.refl _ _) (h := fun W hW => ?hq7) (hr := ?rq7)
                    case hq7 =>
                      have hs : ∀ raw, strOp W raw u19 = .ok (.value (S8 q.bytes)) W := fun raw => strOp_by (Y19.below hW) raw
                      simp only [List.append_eq, List.nil_append, List.cons_append, pick, List.getElem?_cons_zero, List.getElem?_cons_succ]
                      repeat (go_big_quiet_step (fail))
                      refine wpQuiet_nil ?_
                      rfl
                    case rq7 =>
                      refine held_one 19 (by kernel_rfl) (by rfl) (by rfl) (fun Q' hQ' => ?_)
                      dsimp only [bare]
                      go_wp2_with fail
                      refine hQ' _ _ (Below.refl _ _) ?_
                      clear hQ'
                      refine held_end (by kernel_rfl) ?_
                      go_wp2_with fail
                      go_ret
                      exact ⟨rfl, (F16.more T19).2.2.2.2⟩
            · obtain hx : q.put qk qv 256 0 = none := by
                cases hq : q.put qk qv 256 0 with
                | none => rfl
                | some x => have := HPK.out.1 (by rw [hq]; rfl); cases this
              obtain ⟨rfl, rfl⟩ : q' = .e ∧ n' = 100 := by have := HPP.out; rw [hx] at this; exact this
              clear HPP hx
              have n16 : W16.cell? ⟨gN, 0, none⟩ = some Pt.e.val := N16.at_ rfl
              dsimp only [Pt.val] at n16
              rw [hW16, hgN] at n16
              go_wp2_with fail
              rw [← hW16]
              refine (proots_any .e trivial W16).mono ?_
              dsimp only [Pt.root]
              rintro e w17 ⟨rfl, b17⟩
              have F17 := F16.more b17
              go_wp2_with fail
              go_ret
              exact ⟨rfl, F17.2.2.2.2⟩
end Go.Proofs.Ytlegpkdighoflaa
