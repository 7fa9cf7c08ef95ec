/- Plain lemmas on the digest's lists. -/
import Derived.Test.YtpalomkcgfalnaaSha
set_option linter.unusedVariables false
set_option linter.unusedSimpArgs false
namespace Go.Proofs.Ytpalomkcgfalnaa
namespace Sh
theorem take_set {α : Type} (M : List α) (k : Nat) (x : α) (h : k < M.length) : (M.set k x).take (k + 1) = M.take k ++ [x] := by
  rw [List.take_add_one, List.take_set_of_le (by omega)]
  simp [h]
theorem getD_of_take {α : Type} (M W : List α) (d : α) (k j : Nat) (hM : M.take k = W) (hj : j < k) : M.getD j d = W.getD j d := by
  subst hM
  simp [hj]
theorem set_join {α : Type} (A B : List α) (k : Nat) (x : α) (hl : A.length = B.length) (hk : k < A.length) (hx : A[k]? = some x) :
    (A.take k ++ B.drop k).set k x = A.take (k + 1) ++ B.drop (k + 1) := by
  have ht : (A.take k).length = k := by simp; omega
  rw [List.set_append_right _ _ (by omega), ht, Nat.sub_self]
  have hb : k < B.length := by omega
  rw [List.drop_eq_getElem_cons hb]
  simp only [List.set_cons_zero]
  rw [List.take_add_one, hx]
  simp


theorem W32_lo (b : List UInt8) (M : List UInt32) (k : Nat) (hk : k < M.length) (h16 : k < 16) (h : M.take k = W32 b k) : (M.set k (word32 b k)).take (k + 1) = W32 b (k + 1) := by
  rw [take_set _ _ _ hk, h]
  show _ = W32 b k ++ [if k < 16 then word32 b k else _]
  rw [if_pos h16]
theorem W32_hi (b : List UInt8) (M : List UInt32) (k : Nat) (hk : k < M.length) (h16 : 16 ≤ k) (h : M.take k = W32 b k) :
    (M.set k (next32 (g32 M (k - 2)) (g32 M (k - 7)) (g32 M (k - 15)) (g32 M (k - 16)))).take (k + 1) = W32 b (k + 1) := by
  rw [take_set _ _ _ hk]
  show _ = W32 b k ++ [if k < 16 then word32 b k else next32 (g32 (W32 b k) (k - 2)) (g32 (W32 b k) (k - 7)) (g32 (W32 b k) (k - 15)) (g32 (W32 b k) (k - 16))]
  rw [if_neg (by omega), h]
  have e : ∀ j, j < k → g32 M j = g32 (W32 b k) j := fun j hj => getD_of_take M _ 0 k j h hj
  rw [e _ (by omega), e _ (by omega), e _ (by omega), e _ (by omega)]
theorem W32_all (b : List UInt8) (M : List UInt32) (h : M.take 64 = W32 b 64) (hM : M.length = 64) : M = W32 b 64 := by
  rw [← h, List.take_of_length_le (by omega)]
theorem add32_at (h v : List UInt32) (hh : h.length = 8) (hv : v.length = 8) (k : Nat) (hk : k < 8) : (add32 h v)[k]? = some (g32 h k + g32 v k) := by
  unfold add32 g32
  rw [List.getElem?_eq_getElem (by simp; omega)]
  simp [show k < h.length by omega, show k < v.length by omega]
/-- The sums from the left: one place more. -/
theorem add32_step (h v : List UInt32) (hh : h.length = 8) (hv : v.length = 8) (k : Nat) (hk : k < 8) :
    ((add32 h v).take k ++ h.drop k).set k (g32 h k + g32 v k) = (add32 h v).take (k + 1) ++ h.drop (k + 1) :=
  set_join _ _ _ _ (by simp [add32]; omega) (by simp [add32]; omega) (add32_at h v hh hv k hk)
theorem g32_join (A B : List UInt32) (k : Nat) (hl : k < A.length) : g32 (A.take k ++ B.drop k) k = g32 B k := by
  unfold g32
  have ht : (A.take k).length = k := by simp; omega
  rw [List.getD_eq_getElem?_getD, List.getElem?_append_right (by omega), ht]
  simp


theorem W64_lo (b : List UInt8) (M : List UInt64) (k : Nat) (hk : k < M.length) (h16 : k < 16) (h : M.take k = W64 b k) : (M.set k (word64 b k)).take (k + 1) = W64 b (k + 1) := by
  rw [take_set _ _ _ hk, h]
  show _ = W64 b k ++ [if k < 16 then word64 b k else _]
  rw [if_pos h16]
theorem W64_hi (b : List UInt8) (M : List UInt64) (k : Nat) (hk : k < M.length) (h16 : 16 ≤ k) (h : M.take k = W64 b k) :
    (M.set k (next64 (g64 M (k - 2)) (g64 M (k - 7)) (g64 M (k - 15)) (g64 M (k - 16)))).take (k + 1) = W64 b (k + 1) := by
  rw [take_set _ _ _ hk]
  show _ = W64 b k ++ [if k < 16 then word64 b k else next64 (g64 (W64 b k) (k - 2)) (g64 (W64 b k) (k - 7)) (g64 (W64 b k) (k - 15)) (g64 (W64 b k) (k - 16))]
  rw [if_neg (by omega), h]
  have e : ∀ j, j < k → g64 M j = g64 (W64 b k) j := fun j hj => getD_of_take M _ 0 k j h hj
  rw [e _ (by omega), e _ (by omega), e _ (by omega), e _ (by omega)]
theorem W64_all (b : List UInt8) (M : List UInt64) (h : M.take 80 = W64 b 80) (hM : M.length = 80) : M = W64 b 80 := by
  rw [← h, List.take_of_length_le (by omega)]
theorem add64_at (h v : List UInt64) (hh : h.length = 8) (hv : v.length = 8) (k : Nat) (hk : k < 8) : (add64 h v)[k]? = some (g64 h k + g64 v k) := by
  unfold add64 g64
  rw [List.getElem?_eq_getElem (by simp; omega)]
  simp [show k < h.length by omega, show k < v.length by omega]
/-- The sums from the left: one place more. -/
theorem add64_step (h v : List UInt64) (hh : h.length = 8) (hv : v.length = 8) (k : Nat) (hk : k < 8) :
    ((add64 h v).take k ++ h.drop k).set k (g64 h k + g64 v k) = (add64 h v).take (k + 1) ++ h.drop (k + 1) :=
  set_join _ _ _ _ (by simp [add64]; omega) (by simp [add64]; omega) (add64_at h v hh hv k hk)
theorem g64_join (A B : List UInt64) (k : Nat) (hl : k < A.length) : g64 (A.take k ++ B.drop k) k = g64 B k := by
  unfold g64
  have ht : (A.take k).length = k := by simp; omega
  rw [List.getD_eq_getElem?_getD, List.getElem?_append_right (by omega), ht]
  simp


theorem out32_at (S : List UInt32) : ∀ (k j : Nat), k < S.length → j < 4 → (out32 S)[4 * k + j]? = (bytes32 (g32 S k))[j]? := by
  unfold out32
  induction S with
  | nil => intro k j hk; simp at hk
  | cons x S ih =>
    intro k j hk hj
    have hb : (bytes32 x).length = 4 := rfl
    rw [List.flatMap_cons]
    cases k with
    | zero =>
      rw [List.getElem?_append_left (by omega)]
      simp [g32]
    | succ k =>
      rw [List.getElem?_append_right (by omega), hb]
      have := ih k j (by simpa using hk) hj
      rw [show 4 * (k + 1) + j - 4 = 4 * k + j by omega, this]
      simp [g32]
/-- The bytes from the left: one more. -/
theorem out32_set (S : List UInt32) (Z : List UInt8) (hZ : Z.length = 4 * S.length) (k j : Nat) (hk : k < S.length) (hj : j < 4) (x : UInt8) (hx : (bytes32 (g32 S k))[j]? = some x) :
    ((out32 S).take (4 * k + j) ++ Z.drop (4 * k + j)).set (4 * k + j) x = (out32 S).take (4 * k + (j + 1)) ++ Z.drop (4 * k + (j + 1)) :=
  set_join _ _ _ _ (by rw [length_out32, hZ]) (by rw [length_out32]; omega) (by rw [out32_at S k j hk hj, hx])


theorem out64_at (S : List UInt64) : ∀ (k j : Nat), k < S.length → j < 8 → (out64 S)[8 * k + j]? = (bytes64 (g64 S k))[j]? := by
  unfold out64
  induction S with
  | nil => intro k j hk; simp at hk
  | cons x S ih =>
    intro k j hk hj
    have hb : (bytes64 x).length = 8 := rfl
    rw [List.flatMap_cons]
    cases k with
    | zero =>
      rw [List.getElem?_append_left (by omega)]
      simp [g64]
    | succ k =>
      rw [List.getElem?_append_right (by omega), hb]
      have := ih k j (by simpa using hk) hj
      rw [show 8 * (k + 1) + j - 8 = 8 * k + j by omega, this]
      simp [g64]
/-- The bytes from the left: one more. -/
theorem out64_set (S : List UInt64) (Z : List UInt8) (hZ : Z.length = 8 * S.length) (k j : Nat) (hk : k < S.length) (hj : j < 8) (x : UInt8) (hx : (bytes64 (g64 S k))[j]? = some x) :
    ((out64 S).take (8 * k + j) ++ Z.drop (8 * k + j)).set (8 * k + j) x = (out64 S).take (8 * k + (j + 1)) ++ Z.drop (8 * k + (j + 1)) :=
  set_join _ _ _ _ (by rw [length_out64, hZ]) (by rw [length_out64]; omega) (by rw [out64_at S k j hk hj, hx])

end Sh
end Go.Proofs.Ytpalomkcgfalnaa
