/- Plain lemmas for the reference's Digest. -/
import Derived.Test.YtpalomkcgfalnaaRefP
set_option linter.unusedVariables false
set_option linter.unusedSimpArgs false
namespace Go.Proofs.Ytpalomkcgfalnaa
namespace Sh
def up (S : List UInt32) : List UInt64 := S.map (·.toUInt64)
theorem length_up (S : List UInt32) : (up S).length = S.length := by simp [up]
theorem g64_up (S : List UInt32) (k : Nat) : g64 (up S) k = (g32 S k).toUInt64 := by
  unfold g64 g32 up
  simp only [List.getD_eq_getElem?_getD, List.getElem?_map]
  cases S[k]? <;> simp
/-- A number divided by 256 so many times; its last bytes. -/
def sd (N : UInt64) : Nat → UInt64
  | 0 => N
  | j + 1 => sd N j / 256
def lb (N : UInt64) : Nat → List UInt8
  | 0 => []
  | j + 1 => (sd N j % 256).toUInt8 :: lb N j
theorem length_lb (N : UInt64) (j : Nat) : (lb N j).length = j := by
  induction j with
  | zero => rfl
  | succ j ih => simp [lb, ih]
theorem byte_sd (x : UInt64) : (x % 256).toUInt8 = x.toUInt8 := by
  apply UInt8.toNat_inj.1
  rw [UInt64.toNat_toUInt8, UInt64.toNat_toUInt8, UInt64.toNat_mod]
  show x.toNat % 256 % 2 ^ 8 = x.toNat % 2 ^ 8
  omega
theorem toNat_sd (N : UInt64) (j : Nat) : (sd N j).toNat = N.toNat / 256 ^ j := by
  induction j with
  | zero => simp [sd]
  | succ j ih =>
    unfold sd
    rw [UInt64.toNat_div, ih, Nat.pow_succ, ← Nat.div_div_eq_div_mul]
    rfl
theorem shr_sd (N : UInt64) (j : Nat) (h : j < 8) : (sd N j).toUInt8 = (N >>> UInt64.ofNat (8 * j)).toUInt8 := by
  apply UInt8.toNat_inj.1
  rw [UInt64.toNat_toUInt8, UInt64.toNat_toUInt8, toNat_sd, UInt64.toNat_shiftRight, UInt64.toNat_ofNat', Nat.shiftRight_eq_div_pow]
  have e : 8 * j % 2 ^ 64 % 64 = 8 * j := by omega
  rw [e, Nat.pow_mul]
theorem lb_eight (N : UInt64) : lb N 8 = be64 N := by
  simp only [lb, byte_sd]
  rw [shr_sd N 7 (by omega), shr_sd N 6 (by omega), shr_sd N 5 (by omega), shr_sd N 4 (by omega), shr_sd N 3 (by omega), shr_sd N 2 (by omega), shr_sd N 1 (by omega)]
  rfl
theorem sd_big (N : UInt64) (j : Nat) (h : 8 ≤ j) : sd N j = 0 := by
  apply UInt64.toNat_inj.1
  rw [toNat_sd]
  have hN := UInt64.toNat_lt N
  have : 256 ^ 8 ≤ 256 ^ j := Nat.pow_le_pow_right (by omega) h
  have e : (256 : Nat) ^ 8 = 2 ^ 64 := by decide
  exact Nat.div_eq_of_lt (by omega)
theorem lb_sixteen (N : UInt64) : lb N 16 = List.replicate 8 0 ++ be64 N := by
  rw [← lb_eight]
  have e : ∀ j, 8 ≤ j → (sd N j % 256).toUInt8 = 0 := fun j h => by rw [sd_big N j h]; rfl
  have s : ∀ j, lb N (j + 1) = (sd N j % 256).toUInt8 :: lb N j := fun _ => rfl
  rw [s 15, s 14, s 13, s 12, s 11, s 10, s 9, s 8]
  rw [e 15 (by omega), e 14 (by omega), e 13 (by omega), e 12 (by omega), e 11 (by omega), e 10 (by omega), e 9 (by omega), e 8 (by omega)]
  rfl
/-- The length's bytes, filled in from the end. -/
def fl (L : Nat) (N : UInt64) (r : Nat) : List UInt8 := List.replicate r 0 ++ lb N (L - r)
theorem length_fl (L : Nat) (N : UInt64) (r : Nat) (h : r ≤ L) : (fl L N r).length = L := by simp [fl, length_lb]; omega
theorem fl_set (L : Nat) (N : UInt64) (r : Nat) (h0 : 0 < r) (h : r ≤ L) : (fl L N r).set (r - 1) (sd N (L - r) % 256).toUInt8 = fl L N (r - 1) := by
  obtain ⟨s, rfl⟩ : ∃ s, r = s + 1 := ⟨r - 1, by omega⟩
  unfold fl
  rw [Nat.add_sub_cancel]
  have e : L - s = L - (s + 1) + 1 := by omega
  rw [e]
  show _ = List.replicate s 0 ++ ((sd N (L - (s + 1)) % 256).toUInt8 :: lb N (L - (s + 1)))
  rw [List.replicate_succ', List.append_assoc, List.set_append_right _ _ (by simp)]
  simp
/-- A word out of its first j bytes, as the reference gathers it. -/
def pw (s : Nat) (q : List UInt8) (t : Nat) : Nat → UInt64
  | 0 => 0
  | j + 1 => pw s q t j * 256 + (g8 q (s * t + j)).toUInt64
theorem pw32 (q : List UInt8) (t : Nat) : pw 4 q t 4 = (word32 q t).toUInt64 := by
  simp only [pw, word32, Nat.add_zero]
  generalize g8 q (4 * t) = a
  generalize g8 q (4 * t + 1) = b
  generalize g8 q (4 * t + 2) = c
  generalize g8 q (4 * t + 3) = d
  have ha : a.toNat < 256 := UInt8.toNat_lt a
  have hb : b.toNat < 256 := UInt8.toNat_lt b
  have hc : c.toNat < 256 := UInt8.toNat_lt c
  have hd : d.toNat < 256 := UInt8.toNat_lt d
  apply UInt64.toNat_inj.1
  simp only [UInt64.toNat_add, UInt64.toNat_mul, UInt32.toNat_toUInt64, UInt32.toNat_or, UInt32.toNat_shiftLeft, UInt8.toNat_toUInt32, UInt8.toNat_toUInt64]
  show ((((0 * 256 % 2 ^ 64 + a.toNat) % 2 ^ 64 * 256 % 2 ^ 64 + b.toNat) % 2 ^ 64 * 256 % 2 ^ 64 + c.toNat) % 2 ^ 64 * 256 % 2 ^ 64 + d.toNat) % 2 ^ 64 = a.toNat <<< 24 % 2 ^ 32 ||| b.toNat <<< 16 % 2 ^ 32 ||| c.toNat <<< 8 % 2 ^ 32 ||| d.toNat
  simp only [Nat.shiftLeft_eq]
  rw [Nat.mod_eq_of_lt (show a.toNat * 2 ^ 24 < 2 ^ 32 by omega), Nat.mod_eq_of_lt (show b.toNat * 2 ^ 16 < 2 ^ 32 by omega), Nat.mod_eq_of_lt (show c.toNat * 2 ^ 8 < 2 ^ 32 by omega)]
  rw [show a.toNat * 2 ^ 24 = 2 ^ 24 * a.toNat by omega, ← Nat.two_pow_add_eq_or_of_lt (show b.toNat * 2 ^ 16 < 2 ^ 24 by omega)]
  rw [show 2 ^ 24 * a.toNat + b.toNat * 2 ^ 16 = 2 ^ 16 * (2 ^ 8 * a.toNat + b.toNat) by omega, ← Nat.two_pow_add_eq_or_of_lt (show c.toNat * 2 ^ 8 < 2 ^ 16 by omega)]
  rw [show 2 ^ 16 * (2 ^ 8 * a.toNat + b.toNat) + c.toNat * 2 ^ 8 = 2 ^ 8 * (2 ^ 16 * a.toNat + 2 ^ 8 * b.toNat + c.toNat) by omega, ← Nat.two_pow_add_eq_or_of_lt (show d.toNat < 2 ^ 8 by omega)]
  omega
theorem pw_fold (s : Nat) (q : List UInt8) (t j : Nat) (h : s * t + s ≤ q.length) (hj : j ≤ s) : pw s q t j = ((q.drop (s * t)).take j).foldl (fun (m : UInt64) x => m <<< 8 ||| x.toUInt64) (0 : UInt64) := by
  induction j with
  | zero => simp [pw]
  | succ j ih =>
    have e : (q.drop (s * t)).take (j + 1) = (q.drop (s * t)).take j ++ [g8 q (s * t + j)] := by
      have hl : s * t + j < q.length := by omega
      rw [List.take_add_one]
      congr 1
      simp [g8, List.getElem?_drop, hl]
    rw [e, List.foldl_append, ← ih (by omega)]
    simp only [pw, word64_step, List.foldl_cons, List.foldl_nil]
theorem pw64 (q : List UInt8) (t : Nat) (h : 8 * t + 8 ≤ q.length) : pw 8 q t 8 = word64 q t := pw_fold 8 q t 8 h (by omega)
end Sh
end Go.Proofs.Ytpalomkcgfalnaa
