/- append(s, make([]byte, n)...) on a slice that the call owns; append of a slice that is read, nil or not; both as steps of the walk. -/
import Derived.Test.YtpalomkcgfalnaaMem
import Derived.Maps.AppendAt
import Derived.OwnWalk
set_option linter.unusedVariables false
set_option linter.unusedSimpArgs false
namespace Go.Proofs.Ytpalomkcgfalnaa
open Go Go.RowKit

section
variable {P : Program} (w : World)

theorem zeroCells_one (z : Value) (n : Nat) (hz : z.cells = #[z]) : Builtin.zeroCells z.cells n = (List.replicate n z).toArray := by
  apply Array.ext'
  rw [hz]
  apply List.ext_getElem?
  intro j
  simp only [Builtin.zeroCells, Array.toList_map, Array.toList_range]
  rw [List.getElem?_map]
  by_cases h : j < n
  · simp [h, Nat.mod_one]
  · simp [h]

/-- append of n zero values of one cell, on a row of the call's own. -/
theorem run_append_zeros (base : Nat) (t tn ty e : TypeId) (i : TypeInfo) (z : Value) (bytes : Nat) (ht : P.underlying t = some (.slice e)) (k : IntKind) (htn : P.underlying tn = some (.int k))
    (hi : P.info? e = some i) (hz : i.zero = some z) (hsize : i.size = 1) (hby : i.bytes = bytes) (hzs : z.cells = #[z]) (h1 : z.oneCell' = true)
    (v : Value) (n : Nat) (xs : List Value) (hown : w.ownsRow base e 1 v n xs) (k' : IntKind) (m : Nat)
    (h63 : n + m ≤ maxLen) (hbytes : (n + m) * bytes ≤ 140737488355328) (hbase : base ≤ w.heap.size) :
    ∃ v' w', (Builtin.append_ #[t, tn] ty #[v, .int k' m]).run P w = .ok v' w' ∧ w'.ownsRow base e 1 v' (n + m) (xs ++ List.replicate m z) ∧ w.grownBy w' v.ownBlock ∧
      (v'.ownBlock = v.ownBlock ∨ v'.ownBlock = some w.heap.size) := by
  subst hby
  have hlen : (xs ++ List.replicate m z).length = (n + m) * 1 := by rw [List.length_append, hown.1]; simp
  have hm63 : m ≤ 9223372036854775807 := by simp only [maxLen] at h63; omega
  have hwm : IntKind.i64.wrap (m : Int) = (m : Int) := IntWalk.i64_in _ (by omega)
  have hneg : ¬ ((m : Int) < 0) := by omega
  have hmb : m * i.bytes ≤ 140737488355328 := Nat.le_trans (Nat.mul_le_mul_right _ (by omega)) hbytes
  have h48 : ¬ (281474976710656 < (m : Int) * (i.bytes : Int)) := by
    have : ((m * i.bytes : Nat) : Int) ≤ 140737488355328 := by omega
    rw [Int.natCast_mul] at this; omega
  have grown : ∀ (old : Nat), old < n + m → ∀ (row : Option Nat),
      (w.drew.alloc (.cells (xs.toArray ++ (List.replicate m z).toArray ++ Builtin.zeroCells z.cells (grownCap w (n + m) old e - (n + m))) e)).ownsRow base e 1
        (.slice (some ⟨w.heap.size, 0, none⟩) (n + m) (grownCap w (n + m) old e)) (n + m) (xs ++ List.replicate m z) ∧
      w.grownBy (w.drew.alloc (.cells (xs.toArray ++ (List.replicate m z).toArray ++ Builtin.zeroCells z.cells (grownCap w (n + m) old e - (n + m))) e)) row := by
    intro old ho row
    have hge := grownCap_ge w (n + m) old e
    have hcm : grownCap w (n + m) old e ≤ maxLen := grownCap_le_maxLen w (n + m) old e h63
    refine ⟨⟨hlen, .inr ⟨w.heap.size, _, _, rfl, hbase, heap_alloc_new w.drew _, hge, hcm, ?_, ?_⟩⟩, ⟨rfl, rfl, rfl, by simp, fun k hk _ => Below.heap_alloc w.drew _ k hk⟩⟩
    · have hx : xs.length = n := by rw [hown.1, Nat.mul_one]
      rw [zeroCells_one z _ hzs]
      simp [hx]; omega
    · simp only [Array.toList_append, List.append_assoc]
      rw [← List.append_assoc, ← hlen]
      exact List.take_left
  rcases hown.2 with ⟨rfl, rfl⟩ | ⟨g, cap, cur, rfl, hbg, hg, hnc, hcm, hcs, htake⟩
  · have hx : xs = [] := List.eq_nil_of_length_eq_zero (by simpa using hown.1)
    subst hx
    by_cases hm : m = 0
    · subst hm
      refine ⟨.slice none 0 0, w, ?_, World.ownsRow_nil w base e 1, ⟨rfl, rfl, rfl, Nat.le_refl _, fun _ _ _ => rfl⟩, .inl rfl⟩
      simp [Builtin.append_, run_underlying ht, run_underlying htn, sizeOf, typeInfo, hi, asInt, asIntOf, IntWalk.i64_in 0 (by omega)]
    · have hgr := grown 0 (by omega) (Value.ownBlock (.slice none 0 0))
      refine ⟨_, _, ?_, hgr.1, hgr.2, .inr rfl⟩
      have hn0 : ¬ (0 + m ≤ 0) := by omega
      have hfit : ¬ (281474976710656 < Builtin.nextslicecap (0 + m) 0 * i.bytes) := by have := growslice_fits (need := 0 + m) (old := 0) (bytes := i.bytes) (by omega) hbytes; omega
      simp only [Nat.zero_add] at hn0 hfit
      have h63' : ¬ (9223372036854775807 < (m : Int)) := by omega
      simp [Builtin.append_, run_underlying ht, run_underlying htn, sizeOf, typeInfo, zeroValue, hi, hz, asInt, asIntOf, hwm, hneg, h48, hm, h63', hfit, Question.forced, run_firstCells_none, newRow, grownCap, hsize, zeroCells_one z _ hzs]
  · by_cases hroom : n + m ≤ cap
    · by_cases hm : m = 0
      · subst hm
        refine ⟨.slice (some ⟨g, 0, none⟩) n cap, w, ?_, by simpa using hown, World.grownBy.refl w _, .inl rfl⟩
        simp [Builtin.append_, run_underlying ht, run_underlying htn, sizeOf, typeInfo, hi, asInt, asIntOf, IntWalk.i64_in 0 (by omega), hnc, storeCells]
      · have hst := run_storeCells_at P g (n * 1) e (List.replicate m z) 0 cur w hg (by simp [hcs]; omega) (fun u hu => by rw [List.eq_of_mem_replicate hu]; exact h1)
        simp only [Nat.add_zero] at hst
        refine ⟨.slice (some ⟨g, 0, none⟩) (n + m) cap, w.setRow g (cur.toList.take (n * 1) ++ List.replicate m z ++ cur.toList.drop (n * 1 + (List.replicate m z).length)).toArray, ?_, ⟨hlen, .inr ⟨g, cap, _, rfl, hbg, setRow_heap w g cur _ e _ hg, hroom, hcm, ?_, ?_⟩⟩,
          ⟨rfl, rfl, rfl, by simp, fun k _ hk => setRow_other w g k _ (fun e => hk (by simp [Value.ownBlock, e]))⟩, .inl rfl⟩
        · simp only [Nat.mul_one] at hst
          simp [Builtin.append_, run_underlying ht, run_underlying htn, sizeOf, typeInfo, zeroValue, hi, hz, asInt, asIntOf, hwm, hneg, h48, hm, hroom, hsize, zeroCells_one z _ hzs, Addr.add_lit, hst]
        · simp only [List.size_toArray, List.length_append, List.length_take, List.length_drop, Array.length_toList]
          simp; omega
        · rw [htake, ← hlen]
          exact List.take_left
    · have holds : ∀ j u, xs[j]? = some u → w.cell? ((⟨g, 0, none⟩ : Addr).add j) = some u := hown.cells (g := g) rfl
      have hgr := grown cap (by omega) (Value.ownBlock (.slice (some ⟨g, 0, none⟩) n cap))
      refine ⟨_, _, ?_, hgr.1, hgr.2, .inr rfl⟩
      have hm : m ≠ 0 := by omega
      have hfit : ¬ (281474976710656 < Builtin.nextslicecap (n + m) cap * i.bytes) := by have := growslice_fits (need := n + m) (old := cap) (bytes := i.bytes) (by omega) hbytes; omega
      have h63' : ¬ (9223372036854775807 < (n : Int) + (m : Int)) := by simp only [maxLen] at h63; omega
      have hfo := run_firstCells_some (P := P) w.drew 1 n ⟨g, 0, none⟩ n cap xs (by rw [hown.1]) (by simpa using holds)
      simp [Builtin.append_, run_underlying ht, run_underlying htn, sizeOf, typeInfo, zeroValue, hi, hz, asInt, asIntOf, hwm, hneg, h48, hm, hroom, h63', hfit, hfo, Question.forced, newRow, grownCap, hsize, zeroCells_one z _ hzs]
/-- append of nothing leaves the value and the world as they are. -/
theorem run_append_void (base t ty e : Nat) (i : TypeInfo) (size : Nat) (ht : P.underlying t = some (.slice e)) (hi : P.info? e = some i) (v : Value) (n : Nat) (xs : List Value) (hown : w.ownsRow base e size v n xs) (c : Nat) :
    (Builtin.append_ #[t, t] ty #[v, .slice none 0 c]).run P w = .ok v w := by
  rcases hown.2 with ⟨rfl, rfl⟩ | ⟨g, cap, cur, rfl, _, _, hnc, _⟩
  · simp [Builtin.append_, run_underlying ht, sizeOf, typeInfo, hi, Builtin.lenOf, Builtin.firstCells]
  · simp [Builtin.append_, run_underlying ht, sizeOf, typeInfo, hi, Builtin.lenOf, Builtin.firstCells, hnc, storeCells]
end
end Go.Proofs.Ytpalomkcgfalnaa
