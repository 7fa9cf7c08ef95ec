/- witanlaw09.first answers true. -/
import Derived.Test.YtpalomkcgfalnaaTreeE
import Derived.Outline
set_option linter.unusedVariables false
set_option linter.unusedSimpArgs false
namespace Go.Proofs.Ytpalomkcgfalnaa
open Go Go.RowKit Sh
/-- An array whose first byte alone is not nought. -/
def h1 (c : UInt8) : List UInt8 := c :: z8 31
theorem length_h1 (c : UInt8) : (h1 c).length = 32 := by simp [h1]
def h1Op (w : World) (raw : Result Next) : Value → Result Next
  | .int .u8 n => if 0 ≤ n ∧ n < 256 then .ok (.value (A8 (h1 (UInt8.ofNat n.toNat)))) w else raw
  | _ => raw
section
variable (w : World) (raw : Result Next)
@[go_sem] theorem h1Op_1 : h1Op w raw (.int .u8 1) = .ok (.value (A8 (h1 1))) w := rfl
@[go_sem] theorem h1Op_2 : h1Op w raw (.int .u8 2) = .ok (.value (A8 (h1 2))) w := rfl
@[go_sem] theorem h1Op_3 : h1Op w raw (.int .u8 3) = .ok (.value (A8 (h1 3))) w := rfl
@[go_sem] theorem h1Op_9 : h1Op w raw (.int .u8 9) = .ok (.value (A8 (h1 9))) w := rfl
@[go_sem] theorem h1Op_128 : h1Op w raw (.int .u8 128) = .ok (.value (A8 (h1 128))) w := rfl
end
theorem run_h1 (n : Int) (w : World) : (Instr.build 25 #[(0, .int .u8 n)]).run Try.prog w = .ok (.agg (.int .u8 n :: c8 (z8 31)).toArray) w := by kernel_rfl
set_option maxRecDepth 100000 in
@[go_sem ↓ high] theorem build_h1 (w : World) (ρ : Operand → Value) (dst : Option Tmp) (ty : TypeId) (pos : String) (after : Array Edge) (guard : Option (Nat × Bool)) (x : Operand) :
    (execOp ρ { dst, op := .build 25 #[(0, x)], type := ty, pos, after, guard }).run Try.prog w = h1Op w (rawOp Try.prog ρ { dst, op := .build 25 #[(0, x)], type := ty, pos, after, guard } w) (ρ x) := by
  generalize hx : ρ x = v
  unfold h1Op
  split
  · rename_i n
    split
    · rename_i h
      refine exec_build w ρ dst ty pos after guard _ _ _ ?_
      have e : A8 (h1 (UInt8.ofNat n.toNat)) = .agg (.int .u8 n :: c8 (z8 31)).toArray := by
        have : n8 (UInt8.ofNat n.toNat) = n := by
          unfold n8
          rw [UInt8.toNat_ofNat']
          omega
        simp [A8, h1, c8, v8, this]
      rw [e]
      have h2 := run_h1 n w
      simp only [List.map_toArray, List.map_cons, List.map_nil, hx]
      exact h2
    · rfl
  · rfl
attribute [irreducible] h1
theorem root12 : (Tr.lf (h1 1) (h1 2)).root ≠ z8 32 := by decide +kernel
set_option maxRecDepth 100000 in
set_option maxHeartbeats 2000000 in
theorem first09 (w : World) : Calls Try.prog 20 #[] w fun e w' => e = .returned (.bool true) ∧ Below w.heap.size w w' := by
  have hk1 := length_h1 1
  have hk2 := length_h1 2
  have hr := root12
  have hrl := Tr.root_length (Tr.lf (h1 1) (h1 2))
  have hins : ins (h1 1) (h1 2) (256 - 0) 0 Tr.e = Tr.lf (h1 1) (h1 2) := by simp [ins]
  have Hr := Lib.hid hr
  have Hins := Lib.hid hins
  clear hr hins
  go_enter Try.func20, Try.ntmps20
  have hlook : getRes ((Tr.lf (h1 1) (h1 2)).look (h1 1) 0) = .tuple #[A8 (h1 2), .bool true] := by simp [Tr.look, Tr.lead, getRes]
  have Hlook := Lib.hid hlook
  clear hlook
  go_wp2_with fail
  obtain ⟨wa, hwa⟩ : ∃ x, x = w.alloc (Obj.cells #[.pointer none, .int .i64 0] 40) := ⟨_, rfl⟩
  rw [← hwa]
  have Ba : Below w.heap.size w wa := by rw [hwa]; exact (Below.refl _ _).alloc (Nat.le_refl _) _
  have Ta : Bk wa w.heap.size 40 [.pointer none, .int .i64 0] := by rw [hwa]; exact Bk.new _ _ _
  clear hwa
  refine (tput_any (h1 1) (h1 2) hk1 hk2 0 .e (fun _ => false) (.pointer none) wa (by omega) (fun i hi => by omega) trivial (by simp [Tr.len]) rfl).mono ?_
  rintro e wb ⟨q, rfl, hq, hb⟩
  rw [Hins.out] at hq
  obtain ⟨aq, rfl⟩ := hq.form
  have Bb := below_two Ba hb Ba.size
  have Tb := Ta.below hb Ta.lt
  clear hb Ta Ba
  generalize hT : Tr.lf (h1 1) (h1 2) = T at *
  have HT := Lib.hid hT
  have okT : Ok 0 (fun _ => false) T := by rw [← hT]; exact ⟨hk1, hk2, fun i hi => by omega⟩
  have lenT : T.len = 1 := by rw [← hT]; rfl
  clear hT
  go_wp2_with fail
  obtain ⟨wc, hwc⟩ : ∃ x, x = wb.alloc (Obj.cells #[.pointer aq, .int .i64 0] 40) := ⟨_, rfl⟩
  rw [← hwc]
  have Bc : Below wb.heap.size wb wc := by rw [hwc]; exact (Below.refl _ _).alloc (Nat.le_refl _) _
  have Uc : Bk wc wb.heap.size 40 [.pointer aq, .int .i64 0] := by rw [hwc]; exact Bk.new _ _ _
  have hc := (hq.below Bc).more Bc.size
  clear hwc
  refine (tget_any (h1 1) hk1 0 T (fun _ => false) _ wc (by omega) okT hc).mono ?_
  rintro e wd ⟨rfl, hd⟩
  rw [Hlook.out]
  have Bd := below_two Bc hd Bc.size
  have Ud := Uc.below hd Uc.lt
  have hgb := Ud.lt
  have Td := Tb.below Bd (Tb.lt)
  have c0 : wd.cell? ⟨w.heap.size, 0, none⟩ = some (.pointer none) := Td.at_ rfl
  have c1 : wd.cell? ⟨w.heap.size, 1, none⟩ = some (.int .i64 0) := Td.at_ rfl
  have u0 : wd.cell? ⟨wb.heap.size, 0, none⟩ = some (.pointer aq) := Ud.at_ rfl
  have u1 : wd.cell? ⟨wb.heap.size, 1, none⟩ = some (.int .i64 0) := Ud.at_ rfl
  have zt := Td.lt
  have zu := Ud.lt
  have ne1 : w.heap.size ≠ wd.heap.size := by omega
  have ne2 : wb.heap.size ≠ wd.heap.size := by omega
  have hat := (hq.below Bd).more Bd.size
  have BB := below_two Bb Bd Bb.size
  clear hd Uc Bc hc hq
  generalize wb.heap.size = gb at *
  go_wp2_with fail
  obtain ⟨we, hwe⟩ : ∃ x, x = putAt (wd.alloc (Obj.cells (c8 (z8 32)).toArray 25)) ⟨wd.heap.size, 0, none⟩ (c8 (h1 2)) := ⟨_, rfl⟩
  rw [← hwe]
  have Be : Below wd.heap.size wd we := by rw [hwe]; exact below_putAt ((Below.refl _ _).alloc (Nat.le_refl _) _) (by simp) _
  have Ve : Bk we wd.heap.size 25 (c8 (h1 2)) := by rw [hwe]; exact (Bk.new wd _ _).puts (by simp [hk2])
  have Ue := Ud.below Be zu
  have ate := (hat.below Be).more Be.size
  have BE := below_two BB Be BB.size
  have zv := Ve.lt
  generalize wd.heap.size = gd at *
  clear hwe c0 c1 u0 u1 ne1 ne2 hat BB Be Td Ud
  have hne : (T.root == z8 32) = false := by simpa using Hr.out
  refine (troot_any .e (.pointer none) 0 we rfl).mono ?_
  rintro e wf ⟨rfl, hf⟩
  have e0 : Tr.e.root = z8 32 := rfl
  rw [e0]
  have Vf := Ve.below hf zv
  have Uf := Ue.below hf Ue.lt
  have atf := (ate.below hf).more hf.size
  have BF := below_two BE hf BE.size
  have u0 : wf.cell? ⟨gb, 0, none⟩ = some (.pointer aq) := Uf.at_ rfl
  have u1 : wf.cell? ⟨gb, 1, none⟩ = some (.int .i64 0) := Uf.at_ rfl
  clear hf Ve Ue ate BE zv
  go_wp2_with fail
  refine (troot_any T _ 0 wf atf).mono ?_
  rintro e wg ⟨rfl, hg⟩
  have Vg := Vf.below hg Vf.lt
  have Ug := Uf.below hg Uf.lt
  have atg := (atf.below hg).more hg.size
  have BG := below_two BF hg BF.size
  have u2 : wg.cell? ⟨gb, 0, none⟩ = some (.pointer aq) := Ug.at_ rfl
  have u3 : wg.cell? ⟨gb, 1, none⟩ = some (.int .i64 0) := Ug.at_ rfl
  have rv : rowAt wg ⟨gd, 0, none⟩ 32 = some (c8 (h1 2)) := by have := Vg.rows; rwa [length_c8, hk2] at this
  clear hg Vf Uf atf BF u0 u1
  go_wp2_with fail
  refine (tlen_any T _ 0 wg atg).mono ?_
  rintro e wh ⟨rfl, hh⟩
  rw [lenT]
  have BH := below_two BG hh BG.size
  clear hh
  go_wp2_with fail
  go_ret
  exact ⟨rfl, BH⟩
end Go.Proofs.Ytpalomkcgfalnaa
