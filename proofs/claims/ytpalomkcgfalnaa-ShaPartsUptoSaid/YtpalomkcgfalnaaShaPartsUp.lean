/- witanlaw02.ShaParts answers true, and its argument reads as before, for every argument of bulk at most 1048576. -/
import Derived.Test.YtpalomkcgfalnaaRows
import Derived.Test.YtpalomkcgfalnaaShaParts
import Derived.WalkKit
import Derived.ProofKit
import Derived.OpenShut
import Derived.ShutString
import Derived.ChangeOld
import Derived.Below
import Derived.JoinedCond
namespace Go.Proofs.Ytpalomkcgfalnaa.shaPartsUp
open Go Go.ChangeShapes Go.WideShapes Go.ChangeAt Go.RowKit
open Go.ChangeMaps (open_string shut_string)
set_option linter.unusedVariables false

theorem own : ownKnob Try.prog.godebug = none := by kernel_rfl
theorem laidOut : laidOutB Try.prog = true := by kernel_rfl

theorem bulk_one {H : Type} (d : DataW H) : 1 ≤ Rows.uptoBulk d := by
  cases d with
  | lit l => cases l <;> simp [Rows.uptoBulk]
  | nil => simp [Rows.uptoBulk]
  | ptr d => simp [Rows.uptoBulk]
  | slice elems spare => simp [Rows.uptoBulk]
  | agg parts => simp [Rows.uptoBulk]
  | iface t d => simp [Rows.uptoBulk]
  | map entries => simp [Rows.uptoBulk]
  | held h => simp [Rows.uptoBulk]
theorem bulk_length {H : Type} (l : List (DataW H)) : l.length ≤ Rows.uptoBulkAll l := by
  induction l with
  | nil => simp
  | cons x r ih => have := bulk_one x; simp only [Rows.uptoBulkAll, List.length_cons]; omega
theorem bulk_long {H : Type} {d : DataW H} {n : Nat} (h : Long d n) : n ≤ Rows.uptoBulk d := by
  rcases h with rfl | ⟨es, sp, rfl, rfl⟩
  · omega
  · have := bulk_length es
    simp only [Rows.uptoBulk]
    omega
theorem bulk_flat {H : Type} : ∀ (es : List (DataW H)) (ls : List (List UInt8)), es.length = ls.length → (∀ (i : Nat) (d : DataW H) (l : List UInt8), es[i]? = some d → ls[i]? = some l → Long d l.length) → ls.flatten.length ≤ Rows.uptoBulkAll es
  | [], [], _, _ => by simp
  | d :: es, l :: ls, h, hl => by
    have h1 := bulk_long (hl 0 d l rfl rfl)
    have h2 := bulk_flat es ls (by simpa using h) (fun i d' l' hd hl' => hl (i + 1) d' l' (by simpa using hd) (by simpa using hl'))
    simp only [List.flatten_cons, List.length_append, Rows.uptoBulkAll]
    omega
  | [], _ :: _, h, _ => by simp at h
  | _ :: _, [], h, _ => by simp at h

set_option maxRecDepth 100000 in
theorem contract (H : Type) (enc : TypeId × Value → H) (W : World) (base : Nat) (args : Array Value) (ds gs : List (DataW H)) (before : List MemPlace)
    (hval : ∀ (j : Nat) t v, Try.f4.params[j]? = some t → args[j]? = some v → Value.okWide Try.prog W .any base t v)
    (hW : DataW.Whole enc Try.prog Try.f4.params.toList Rows.shaPartsSpec.vars false W args.toList ds gs before)
    (hk : Rows.uptoSmall H (ds ++ gs) = true) :
    Calls Try.prog 4 args W fun e W' => ∃ v, e = .returned v ∧ Rows.shaPartsSpec.post enc Try.prog Try.f4 false true false false W args v W' := by
  have hW' := hW
  obtain ⟨p, q, hA0, hV, rfl, hfz, hnd⟩ := hW
  have hA : DataW.TrodAll enc Try.prog W 0 (fun _ => true) true Try.f4.params.toList args.toList ds p := hA0
  rw [Try.params4] at hA hval
  obtain ⟨v0, vs0, d0, ds0, p0, q0, hargs, rfl, rfl, h0, r0⟩ := trodAll_cons hA
  obtain ⟨rfl, rfl, rfl⟩ := trodAll_nil r0
  obtain rfl : args = #[v0] := by cases args; simp_all
  obtain ⟨rfl, rfl⟩ := trodVars_none hV
  have k0 := h0
  have lt0 : ∀ x ∈ p0, x.block < W.heap.size := by obtain ⟨m, hm⟩ := k0; exact DataW.trod_lt m _ _ _ hm
  obtain ⟨ls, w0, hlen⟩ : ∃ ls, Parts W W.heap.size v0 ls ∧ ls.flatten.length ≤ 1048576 := by
    obtain ⟨fuel, hf⟩ := h0
    obtain ⟨v, ls, hv, hp, hl⟩ := open_parts Try.underlying31 Try.underlying22 Try.underlying5 (by kernel_rfl) (by kernel_rfl) hf
    have hbulk : Rows.uptoBulkAll ([d0] ++ []) ≤ 1048576 := of_decide_eq_true hk
    simp only [List.append_nil, Rows.uptoBulkAll] at hbulk
    have hv0 : v0 = v := by
      obtain ⟨a0, len0, cap0, e0⟩ := okWide_slice Try.underlying31 (hval 0 31 v0 rfl rfl)
      rw [e0] at hv ⊢
      have h1 : [Value.slice a0 len0 cap0] = [v] := hv
      exact (List.cons.inj h1).1
    refine ⟨ls, hv0 ▸ hp, ?_⟩
    rcases hl with rfl | ⟨es, sp, hd, hel, hlong⟩
    · simp
    · have h1 := bulk_flat es ls hel hlong
      simp only at hd
      rw [hd] at hbulk
      simp only [Rows.uptoBulk] at hbulk
      omega
  clear hA0
  refine (shaParts_any v0 ls W w0 (by omega)).mono fun e W' ⟨he, bel⟩ => ?_
  subst he
  exact ⟨_, rfl, _, _, _, [], _, [], hW', trodAll_mk1 (shut_bool Try.underlying4 _), (trodAll_cons_mk (Below.trod laidOut (by kernel_rfl) (of_decide_eq_true (by kernel_rfl)) k0 bel lt0) trodAll_mk0), rfl, bel.frame _, fun h => by cases h⟩

set_option maxRecDepth 100000 in
theorem lifted (os : Os) (started : os.Started) (H : Type) (enc : TypeId × Value → H) (F : Stop.Interp) :
    ReturnsInHanded {} Try.checked os 4 .any ((Rows.OpenSpec.upto Rows.shaPartsSpec).pre6 enc Try.prog Try.f4 Rows.shaPartsUptoRow.domain false) (((Rows.OpenSpec.upto Rows.shaPartsSpec).at F).post enc Try.prog Try.f4 false true false false) := by
  refine returnsInHanded_of_cond (C := Try.checked) (s := Rows.OpenSpec.upto Rows.shaPartsSpec) (k := Rows.uptoSmall) rfl own started (by kernel_rfl) Try.func4
    (OpenSpec.witness (enc := enc) (C := Try.checked) (s := Rows.OpenSpec.upto Rows.shaPartsSpec) (k := Rows.uptoSmall) rfl false ⟨#[], #[.slice none 0 0], []⟩ 8 (by kernel_rfl) (by kernel_rfl) (by kernel_rfl)
      (x := ([.nil], [], [])) (by kernel_rfl) rfl (by kernel_rfl)) ?_
  intro W base args ds gs before hval hW _ hk _
  exact contract H enc W base args ds gs before hval hW hk

theorem over : Rows.shaPartsUptoRow.holds Try.pinned (Rows.OpenSpec.upto Rows.shaPartsSpec) :=
  OpenClaim.holds_of_cond 4 Try.f4 rfl rfl rfl rfl rfl rfl rfl ⟨rfl, rfl, rfl, rfl, rfl⟩ rfl rfl rfl rfl rfl (by kernel_rfl) Try.func4 (by kernel_rfl)
    (of_decide_eq_true (by kernel_rfl)) (by unfold Func.isWrapper; first | (rw [if_pos (by decide +kernel)]; kernel_rfl) | (rw [if_neg (by decide +kernel)]; exact ⟨rfl, rfl⟩))
    (fun os started H enc _ F => lifted os started H enc F)

theorem proved : Rows.ShaPartsUptoSaid :=
  over
end Go.Proofs.Ytpalomkcgfalnaa.shaPartsUp
