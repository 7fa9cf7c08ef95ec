/- Digest's words: what a round makes of them, as plain equations. -/
import Derived.Test.YtpalomkcgfalnaaRefC
set_option linter.unusedVariables false
set_option linter.unusedSimpArgs false
namespace Go.Proofs.Ytpalomkcgfalnaa
namespace Sh
/-- The low 32 bits of a word; a name that no simp set opens. -/
def low (x : UInt64) : UInt64 := x.toUInt32.toUInt64
theorem low_def (x : UInt64) : low x = x.toUInt32.toUInt64 := rfl
theorem low_32 (x : UInt64) : (low x).toUInt32 = x.toUInt32 := by unfold low; exact UInt32.toUInt32_toUInt64 _
theorem th32_true (x : UInt32) (a b : Int) (c : Nat) : th32 x a b c true = rotl32 x (-a) ^^^ rotl32 x (-b) ^^^ x >>> UInt32.ofNat c := rfl
theorem th32_false (x : UInt32) (a b c : Int) : th32 x a b c false = rotl32 x (-a) ^^^ rotl32 x (-b) ^^^ rotl32 x (-c) := rfl
theorem th64_true (x : UInt64) (a b : Int) (c : Nat) : th64 x a b c true = rotl64 x (-a) ^^^ rotl64 x (-b) ^^^ x >>> UInt64.ofNat c := rfl
theorem th64_false (x : UInt64) (a b c : Int) : th64 x a b c false = rotl64 x (-a) ^^^ rotl64 x (-b) ^^^ rotl64 x (-c) := rfl
theorem next32_up (y m x l : UInt32) : low ((th32 y 17 19 10 true).toUInt64 + m.toUInt64 + (th32 x 7 18 3 true).toUInt64 + l.toUInt64) = (next32 y m x l).toUInt64 := by
  unfold low
  congr 1
  simp only [UInt64.toUInt32_add, UInt32.toUInt32_toUInt64]
  rfl
theorem next64_up (y m x l : UInt64) : th64 y 19 61 6 true + m + th64 x 1 8 7 true + l = next64 y m x l := rfl
def tA32 (V : List UInt32) (k : Nat) (m : UInt32) : UInt64 :=
  (g32 V 7).toUInt64 + (th32 (g32 V 4) 6 11 25 false).toUInt64 + ((g32 V 4).toUInt64 &&& (g32 V 5).toUInt64 ||| low (~~~(g32 V 4).toUInt64) &&& (g32 V 6).toUInt64) + g64 cubes k >>> 32 + m.toUInt64
def tB32 (V : List UInt32) : UInt64 :=
  (th32 (g32 V 0) 2 13 22 false).toUInt64 + ((g32 V 0).toUInt64 &&& (g32 V 1).toUInt64 ||| (g32 V 0).toUInt64 &&& (g32 V 2).toUInt64 ||| (g32 V 1).toUInt64 &&& (g32 V 2).toUInt64)
theorem tA32_low (V : List UInt32) (k : Nat) (m : UInt32) : (tA32 V k m).toUInt32 = ta32 V (K32 k) m := by
  unfold tA32 ta32 K32
  simp only [UInt64.toUInt32_add, UInt32.toUInt32_toUInt64, UInt64.toUInt32_or, UInt64.toUInt32_and, low_32, UInt64.toUInt32_not]
  rw [ch32]
  rfl
theorem tB32_low (V : List UInt32) : (tB32 V).toUInt32 = tb32 V := by
  unfold tB32 tb32
  simp only [UInt64.toUInt32_add, UInt32.toUInt32_toUInt64, UInt64.toUInt32_or, UInt64.toUInt32_and]
  rw [maj32]
  rfl
theorem round_up32 (V : List UInt32) (k : Nat) (m : UInt32) : up (round32 V (K32 k) m) =
    [low (tA32 V k m + tB32 V), (g32 V 0).toUInt64, (g32 V 1).toUInt64, (g32 V 2).toUInt64, low ((g32 V 3).toUInt64 + tA32 V k m), (g32 V 4).toUInt64, (g32 V 5).toUInt64, (g32 V 6).toUInt64] := by
  simp only [low_def, UInt64.toUInt32_add, tA32_low, tB32_low, UInt32.toUInt32_toUInt64]
  rfl
def tA64 (V : List UInt64) (k : Nat) (m : UInt64) : UInt64 :=
  g64 V 7 + th64 (g64 V 4) 14 18 41 false + (g64 V 4 &&& g64 V 5 ||| ~~~g64 V 4 &&& g64 V 6) + g64 cubes k >>> 0 + m
def tB64 (V : List UInt64) : UInt64 :=
  th64 (g64 V 0) 28 34 39 false + (g64 V 0 &&& g64 V 1 ||| g64 V 0 &&& g64 V 2 ||| g64 V 1 &&& g64 V 2)
theorem shr_zero (x : UInt64) : x >>> 0 = x := by simp
theorem round_up64 (V : List UInt64) (k : Nat) (m : UInt64) : round64 V (K64 k) m =
    [tA64 V k m + tB64 V, g64 V 0, g64 V 1, g64 V 2, g64 V 3 + tA64 V k m, g64 V 4, g64 V 5, g64 V 6] := by
  have e1 : tA64 V k m = ta64 V (K64 k) m := by
    unfold tA64 ta64 K64
    rw [ch64, shr_zero]
    rfl
  have e2 : tB64 V = tb64 V := by
    unfold tB64 tb64
    rw [maj64]
    rfl
  rw [e1, e2]
  rfl
/-! the schedule, filled up with noughts -/
def xs (L : Nat) (X : List UInt64) : List UInt64 := X ++ z64 (L - X.length)
theorem length_xs (L : Nat) (X : List UInt64) (h : X.length ≤ L) : (xs L X).length = L := by simp [xs]; omega
theorem xs_set (L : Nat) (X : List UInt64) (t : Nat) (x : UInt64) (ht : X.length = t) (h : t < L) : (xs L X).set t x = xs L (X ++ [x]) := by
  subst ht
  unfold xs z64
  obtain ⟨d, hd⟩ : ∃ d, L - X.length = d + 1 := ⟨L - X.length - 1, by omega⟩
  rw [hd, List.length_append, List.length_singleton, show L - (X.length + 1) = d by omega, List.set_append_right _ _ (Nat.le_refl _), Nat.sub_self, List.replicate_succ]
  simp
theorem xs_zero (L : Nat) (X : List UInt64) (t : Nat) (ht : X.length = t) (h : t < L) : (xs L X).set t 0 = xs L X := by
  rw [xs_set L X t 0 ht h]
  unfold xs z64
  obtain ⟨d, hd⟩ : ∃ d, L - X.length = d + 1 := ⟨L - X.length - 1, by omega⟩
  rw [hd, List.length_append, List.length_singleton, show L - (X.length + 1) = d by omega, List.replicate_succ]
  simp
theorem g64_xs (L : Nat) (X : List UInt64) (i : Nat) (h : i < X.length) : g64 (xs L X) i = g64 X i := by
  unfold g64 xs
  rw [List.getD_eq_getElem?_getD, List.getD_eq_getElem?_getD, List.getElem?_append_left h]
theorem xs_full (L : Nat) (X : List UInt64) (h : X.length = L) : xs L X = X := by simp [xs, h, z64]
theorem xs_nil (L : Nat) : xs L [] = z64 L := rfl
theorem W32_low (q : List UInt8) (t : Nat) (h : t < 16) : up (W32 q (t + 1)) = up (W32 q t) ++ [pw 4 q t 4] := by
  rw [pw32]
  show up (W32 q t ++ [if t < 16 then word32 q t else _]) = _
  rw [if_pos h]
  simp [up]
theorem W32_high (q : List UInt8) (t : Nat) (h : 16 ≤ t) : up (W32 q (t + 1)) = up (W32 q t) ++ [low ((th32 (g32 (W32 q t) (t - 2)) 17 19 10 true).toUInt64 + (g32 (W32 q t) (t - 7)).toUInt64 + (th32 (g32 (W32 q t) (t - 15)) 7 18 3 true).toUInt64 + (g32 (W32 q t) (t - 16)).toUInt64)] := by
  rw [next32_up]
  show up (W32 q t ++ [if t < 16 then word32 q t else next32 _ _ _ _]) = _
  rw [if_neg (by omega)]
  simp [up]
theorem W64_low (q : List UInt8) (t : Nat) (h : t < 16) (hq : 8 * t + 8 ≤ q.length) : W64 q (t + 1) = W64 q t ++ [pw 8 q t 8] := by
  rw [pw64 q t hq]
  show W64 q t ++ [if t < 16 then word64 q t else _] = _
  rw [if_pos h]
theorem W64_high (q : List UInt8) (t : Nat) (h : 16 ≤ t) : W64 q (t + 1) = W64 q t ++ [th64 (g64 (W64 q t) (t - 2)) 19 61 6 true + g64 (W64 q t) (t - 7) + th64 (g64 (W64 q t) (t - 15)) 1 8 7 true + g64 (W64 q t) (t - 16)] := by
  rw [next64_up]
  show W64 q t ++ [if t < 16 then word64 q t else next64 _ _ _ _] = _
  rw [if_neg (by omega)]
theorem add_up32 (S V : List UInt32) (hS : S.length = 8) (hV : V.length = 8) (k : Nat) (hk : k < 8) :
    ((up (add32 S V)).take k ++ (up S).drop k).set k (low ((g32 S k).toUInt64 + (g32 V k).toUInt64)) = (up (add32 S V)).take (k + 1) ++ (up S).drop (k + 1) := by
  refine set_join _ _ _ _ (by simp [up, add32, hS, hV]) (by simp [up, add32, hS, hV]; omega) ?_
  unfold up
  rw [List.getElem?_map, add32_at S V hS hV k hk, Option.map_some]
  unfold low
  congr 2
  simp
theorem add_up64 (S V : List UInt64) (hS : S.length = 8) (hV : V.length = 8) (k : Nat) (hk : k < 8) :
    ((add64 S V).take k ++ S.drop k).set k (g64 S k + g64 V k) = (add64 S V).take (k + 1) ++ S.drop (k + 1) := add64_step S V hS hV k hk
def hs32 : List UInt64 := squares.map fun (r : UInt64) => r >>> 32
theorem hs32_eq : hs32 = up (squares.map fun (r : UInt64) => (r >>> 32).toUInt32) := by decide +kernel
theorem hs32_set (k : Nat) (hk : k < 8) : (hs32.take k ++ (z64 8).drop k).set k (g64 squares k >>> 32) = hs32.take (k + 1) ++ (z64 8).drop (k + 1) := by
  have hl : squares.length = 8 := by decide +kernel
  refine set_join _ _ _ _ (by simp [hs32, hl]) (by simp [hs32, hl]; omega) ?_
  unfold hs32 g64
  rw [List.getElem?_map, List.getElem?_eq_getElem (by omega)]
  simp [hl, hk]
theorem hs64_set (k : Nat) (hk : k < 8) : (squares.take k ++ (z64 8).drop k).set k (g64 squares k >>> 0) = squares.take (k + 1) ++ (z64 8).drop (k + 1) := by
  have hl : squares.length = 8 := by decide +kernel
  rw [shr_zero]
  refine set_join _ _ _ _ (by simp [hl]) (by omega) ?_
  unfold g64
  rw [List.getElem?_eq_getElem (by omega)]
  simp [hl, hk]
end Sh
open Go Go.RowKit Sh
theorem cutlow (x : UInt64) (w : World) :
    Calls Try.prog 54 #[.int .u64 (n64 x), .int .u64 32] w fun e w' => e = .returned (.int .u64 (n64 (low x))) ∧ w' = w := cut32 x w
end Go.Proofs.Ytpalomkcgfalnaa
