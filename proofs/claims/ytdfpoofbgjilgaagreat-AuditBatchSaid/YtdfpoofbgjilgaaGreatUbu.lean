/- A part of the proof of AuditBatch. -/
import Derived.Test.YtdfpoofbgjilgaaGreatUbm
import Derived.Test.YtdfpoofbgjilgaaGreatUbq
import Derived.Test.YtdfpoofbgjilgaaGreatUbr
import Derived.Test.YtdfpoofbgjilgaaGreatUbs
import Derived.Test.YtdfpoofbgjilgaaGreatUbt
set_option linter.unusedVariables false
set_option linter.unusedSimpArgs false
set_option maxRecDepth 100000
set_option maxHeartbeats 40000000
namespace Go.Proofs.YtdfpoofbgjilgaaGreat
open Go Go.RowKit Sh
theorem Bw {v i r f k s : Nat} (h : Kd.at v i r f k s = true) (hv : 1 ≤ v) (hv2 : v ≤ 64) : signedB (uAB 0 v i) = true := Owr.sgn E7c E2j F2q h hv hv2
theorem F0u : ∀ i v : Nat, i < 8 → 1 ≤ v → v ≤ i + 1 → signedB (uAB 0 v i) = true
  | 0, v, _, a, b => by
    obtain rfl : v = 1 := by omega
    exact Bw E8b a (by omega)
  | 1, v, _, a, b => by
    have h : v = 1 ∨ v = 2 := by omega
    rcases h with rfl | rfl
    · exact Bw E4b a (by omega)
    · exact Bw E5m a (by omega)
  | 2, v, _, a, b => by
    have h : v = 1 ∨ v = 2 ∨ v = 3 := by omega
    rcases h with rfl | rfl | rfl
    · exact Bw E9k a (by omega)
    · exact Bw F0o a (by omega)
    · exact Bw F0q a (by omega)
  | 3, v, _, a, b => by
    have h : v = 1 ∨ v = 2 ∨ v = 3 ∨ v = 4 := by omega
    rcases h with rfl | rfl | rfl | rfl
    · exact Bw E2a a (by omega)
    · exact Bw E8x a (by omega)
    · exact Bw E9h a (by omega)
    · exact Bw E9e a (by omega)
  | 4, v, _, a, b => by
    have h : v = 1 ∨ v = 2 ∨ v = 3 ∨ v = 4 ∨ v = 5 := by omega
    rcases h with rfl | rfl | rfl | rfl | rfl
    · exact Bw E2c a (by omega)
    · exact Bw E0d a (by omega)
    · exact Bw E8f a (by omega)
    · exact Bw E2q a (by omega)
    · exact Bw E9i a (by omega)
  | 5, v, _, a, b => by
    have h : v = 1 ∨ v = 2 ∨ v = 3 ∨ v = 4 ∨ v = 5 ∨ v = 6 := by omega
    rcases h with rfl | rfl | rfl | rfl | rfl | rfl
    · exact Bw D9u a (by omega)
    · exact Bw E2d a (by omega)
    · exact Bw E0i a (by omega)
    · exact Bw E7y a (by omega)
    · exact Bw E2v a (by omega)
    · exact Bw E0z a (by omega)
  | 6, v, _, a, b => by
    have h : v = 1 ∨ v = 2 ∨ v = 3 ∨ v = 4 ∨ v = 5 ∨ v = 6 ∨ v = 7 := by omega
    rcases h with rfl | rfl | rfl | rfl | rfl | rfl | rfl
    · exact Bw E7v a (by omega)
    · exact Bw E7k a (by omega)
    · exact Bw E0o a (by omega)
    · exact Bw E5l a (by omega)
    · exact Bw E8m a (by omega)
    · exact Bw E6o a (by omega)
    · exact Bw E7f a (by omega)
  | 7, v, _, a, b => by
    have h : v = 1 ∨ v = 2 ∨ v = 3 ∨ v = 4 ∨ v = 5 ∨ v = 6 ∨ v = 7 ∨ v = 8 := by omega
    rcases h with rfl | rfl | rfl | rfl | rfl | rfl | rfl | rfl
    · exact Bw E1s a (by omega)
    · exact Bw F0k a (by omega)
    · exact Bw E7u a (by omega)
    · exact Bw E6k a (by omega)
    · exact Bw E5k a (by omega)
    · exact Bw E4h a (by omega)
    · exact Bw E1b a (by omega)
    · exact Bw E4n a (by omega)
  | i + 8, _, h, _, _ => absurd h (by omega)
theorem Bx {v i r f k s : Nat} (h : Jr.at v i r f k s = true) (hv : 1 ≤ v) (hv2 : v ≤ 64) : signedB (uAB 1 v i) = true := Owr.sgn E6y E5p F4g h hv hv2
theorem E1x : ∀ i v : Nat, i < 8 → 1 ≤ v → v ≤ i + 1 → signedB (uAB 1 v i) = true
  | 0, v, _, a, b => by
    obtain rfl : v = 1 := by omega
    exact Bx E1v a (by omega)
  | 1, v, _, a, b => by
    have h : v = 1 ∨ v = 2 := by omega
    rcases h with rfl | rfl
    · exact Bx F0v a (by omega)
    · exact Bx E3s a (by omega)
  | 2, v, _, a, b => by
    have h : v = 1 ∨ v = 2 ∨ v = 3 := by omega
    rcases h with rfl | rfl | rfl
    · exact Bx E9o a (by omega)
    · exact Bx F0m a (by omega)
    · exact Bx E3t a (by omega)
  | 3, v, _, a, b => by
    have h : v = 1 ∨ v = 2 ∨ v = 3 ∨ v = 4 := by omega
    rcases h with rfl | rfl | rfl | rfl
    · exact Bx F0n a (by omega)
    · exact Bx E7x a (by omega)
    · exact Bx F0t a (by omega)
    · exact Bx D9s a (by omega)
  | 4, v, _, a, b => by
    have h : v = 1 ∨ v = 2 ∨ v = 3 ∨ v = 4 ∨ v = 5 := by omega
    rcases h with rfl | rfl | rfl | rfl | rfl
    · exact Bx E7g a (by omega)
    · exact Bx E7b a (by omega)
    · exact Bx E4i a (by omega)
    · exact Bx E3i a (by omega)
    · exact Bx E4w a (by omega)
  | 5, v, _, a, b => by
    have h : v = 1 ∨ v = 2 ∨ v = 3 ∨ v = 4 ∨ v = 5 ∨ v = 6 := by omega
    rcases h with rfl | rfl | rfl | rfl | rfl | rfl
    · exact Bx E7n a (by omega)
    · exact Bx E0f a (by omega)
    · exact Bx E9a a (by omega)
    · exact Bx E1e a (by omega)
    · exact Bx E7w a (by omega)
    · exact Bx E6p a (by omega)
  | 6, v, _, a, b => by
    have h : v = 1 ∨ v = 2 ∨ v = 3 ∨ v = 4 ∨ v = 5 ∨ v = 6 ∨ v = 7 := by omega
    rcases h with rfl | rfl | rfl | rfl | rfl | rfl | rfl
    · exact Bx E2r a (by omega)
    · exact Bx E5r a (by omega)
    · exact Bx E2n a (by omega)
    · exact Bx E8v a (by omega)
    · exact Bx E4a a (by omega)
    · exact Bx E7q a (by omega)
    · exact Bx D9z a (by omega)
  | 7, v, _, a, b => by
    have h : v = 1 ∨ v = 2 ∨ v = 3 ∨ v = 4 ∨ v = 5 ∨ v = 6 ∨ v = 7 ∨ v = 8 := by omega
    rcases h with rfl | rfl | rfl | rfl | rfl | rfl | rfl | rfl
    · exact Bx E6g a (by omega)
    · exact Bx E0t a (by omega)
    · exact Bx E8w a (by omega)
    · exact Bx E6r a (by omega)
    · exact Bx E7r a (by omega)
    · exact Bx E6v a (by omega)
    · exact Bx E3z a (by omega)
    · exact Bx F0h a (by omega)
  | i + 8, _, h, _, _ => absurd h (by omega)
theorem Bu {v i r f k s : Nat} (h : Jk.at v i r f k s = true) (hv : 1 ≤ v) (hv2 : v ≤ 64) : signedB (uAB 2 v i) = true := Owr.sgn E8t E1h F2r h hv hv2
theorem F0a : ∀ i v : Nat, i < 8 → 1 ≤ v → v ≤ i + 1 → signedB (uAB 2 v i) = true
  | 0, v, _, a, b => by
    obtain rfl : v = 1 := by omega
    exact Bu E3m a (by omega)
  | 1, v, _, a, b => by
    have h : v = 1 ∨ v = 2 := by omega
    rcases h with rfl | rfl
    · exact Bu D9q a (by omega)
    · exact Bu E0b a (by omega)
  | 2, v, _, a, b => by
    have h : v = 1 ∨ v = 2 ∨ v = 3 := by omega
    rcases h with rfl | rfl | rfl
    · exact Bu E7l a (by omega)
    · exact Bu E1k a (by omega)
    · exact Bu D9r a (by omega)
  | 3, v, _, a, b => by
    have h : v = 1 ∨ v = 2 ∨ v = 3 ∨ v = 4 := by omega
    rcases h with rfl | rfl | rfl | rfl
    · exact Bu E3w a (by omega)
    · exact Bu E7i a (by omega)
    · exact Bu E0m a (by omega)
    · exact Bu E5b a (by omega)
  | 4, v, _, a, b => by
    have h : v = 1 ∨ v = 2 ∨ v = 3 ∨ v = 4 ∨ v = 5 := by omega
    rcases h with rfl | rfl | rfl | rfl | rfl
    · exact Bu E2y a (by omega)
    · exact Bu E6i a (by omega)
    · exact Bu E5d a (by omega)
    · exact Bu E6u a (by omega)
    · exact Bu E9w a (by omega)
  | 5, v, _, a, b => by
    have h : v = 1 ∨ v = 2 ∨ v = 3 ∨ v = 4 ∨ v = 5 ∨ v = 6 := by omega
    rcases h with rfl | rfl | rfl | rfl | rfl | rfl
    · exact Bu F0d a (by omega)
    · exact Bu E2s a (by omega)
    · exact Bu E5y a (by omega)
    · exact Bu E9p a (by omega)
    · exact Bu E8i a (by omega)
    · exact Bu E1o a (by omega)
  | 6, v, _, a, b => by
    have h : v = 1 ∨ v = 2 ∨ v = 3 ∨ v = 4 ∨ v = 5 ∨ v = 6 ∨ v = 7 := by omega
    rcases h with rfl | rfl | rfl | rfl | rfl | rfl | rfl
    · exact Bu E0l a (by omega)
    · exact Bu E2x a (by omega)
    · exact Bu E2u a (by omega)
    · exact Bu E2o a (by omega)
    · exact Bu E8d a (by omega)
    · exact Bu E4q a (by omega)
    · exact Bu E6e a (by omega)
  | 7, v, _, a, b => by
    have h : v = 1 ∨ v = 2 ∨ v = 3 ∨ v = 4 ∨ v = 5 ∨ v = 6 ∨ v = 7 ∨ v = 8 := by omega
    rcases h with rfl | rfl | rfl | rfl | rfl | rfl | rfl | rfl
    · exact Bu E6w a (by omega)
    · exact Bu E3y a (by omega)
    · exact Bu E6h a (by omega)
    · exact Bu E9q a (by omega)
    · exact Bu E1r a (by omega)
    · exact Bu E2e a (by omega)
    · exact Bu E7a a (by omega)
    · exact Bu E4u a (by omega)
  | i + 8, _, h, _, _ => absurd h (by omega)
theorem Bv {v i r f k s : Nat} (h : Jv.at v i r f k s = true) (hv : 1 ≤ v) (hv2 : v ≤ 64) : signedB (uAB 3 v i) = true := Owr.sgn E9s E3d F3a h hv hv2
theorem E4f : ∀ i v : Nat, i < 8 → 1 ≤ v → v ≤ i + 1 → signedB (uAB 3 v i) = true
  | 0, v, _, a, b => by
    obtain rfl : v = 1 := by omega
    exact Bv E6d a (by omega)
  | 1, v, _, a, b => by
    have h : v = 1 ∨ v = 2 := by omega
    rcases h with rfl | rfl
    · exact Bv F0e a (by omega)
    · exact Bv E5j a (by omega)
  | 2, v, _, a, b => by
    have h : v = 1 ∨ v = 2 ∨ v = 3 := by omega
    rcases h with rfl | rfl | rfl
    · exact Bv E0u a (by omega)
    · exact Bv E0s a (by omega)
    · exact Bv E5h a (by omega)
  | 3, v, _, a, b => by
    have h : v = 1 ∨ v = 2 ∨ v = 3 ∨ v = 4 := by omega
    rcases h with rfl | rfl | rfl | rfl
    · exact Bv E6m a (by omega)
    · exact Bv E2w a (by omega)
    · exact Bv E5z a (by omega)
    · exact Bv E3o a (by omega)
  | 4, v, _, a, b => by
    have h : v = 1 ∨ v = 2 ∨ v = 3 ∨ v = 4 ∨ v = 5 := by omega
    rcases h with rfl | rfl | rfl | rfl | rfl
    · exact Bv E8o a (by omega)
    · exact Bv E5s a (by omega)
    · exact Bv E0j a (by omega)
    · exact Bv E1l a (by omega)
    · exact Bv E9x a (by omega)
  | 5, v, _, a, b => by
    have h : v = 1 ∨ v = 2 ∨ v = 3 ∨ v = 4 ∨ v = 5 ∨ v = 6 := by omega
    rcases h with rfl | rfl | rfl | rfl | rfl | rfl
    · exact Bv E9v a (by omega)
    · exact Bv E6s a (by omega)
    · exact Bv E1z a (by omega)
    · exact Bv E3g a (by omega)
    · exact Bv E4p a (by omega)
    · exact Bv F0b a (by omega)
  | 6, v, _, a, b => by
    have h : v = 1 ∨ v = 2 ∨ v = 3 ∨ v = 4 ∨ v = 5 ∨ v = 6 ∨ v = 7 := by omega
    rcases h with rfl | rfl | rfl | rfl | rfl | rfl | rfl
    · exact Bv E9t a (by omega)
    · exact Bv E1j a (by omega)
    · exact Bv E3b a (by omega)
    · exact Bv E3p a (by omega)
    · exact Bv E1c a (by omega)
    · exact Bv E2t a (by omega)
    · exact Bv D9t a (by omega)
  | 7, v, _, a, b => by
    have h : v = 1 ∨ v = 2 ∨ v = 3 ∨ v = 4 ∨ v = 5 ∨ v = 6 ∨ v = 7 ∨ v = 8 := by omega
    rcases h with rfl | rfl | rfl | rfl | rfl | rfl | rfl | rfl
    · exact Bv E0c a (by omega)
    · exact Bv E6q a (by omega)
    · exact Bv E9f a (by omega)
    · exact Bv F0w a (by omega)
    · exact Bv D9p a (by omega)
    · exact Bv E9b a (by omega)
    · exact Bv E0g a (by omega)
    · exact Bv E4r a (by omega)
  | i + 8, _, h, _, _ => absurd h (by omega)
theorem D1h : C3d 0 = Kd.B ∧ C3d 1 = Jr.B ∧ C3d 2 = Jk.B ∧ C3d 3 = Jv.B := ⟨Owr.pub E7c E2j, Owr.pub E6y E5p, Owr.pub E8t E1h, Owr.pub E9s E3d⟩
theorem uAB_all : AbOk uAB C3d where
  sg := fun k v i hk hi h1 h2 => by
    have h : k = 0 ∨ k = 1 ∨ k = 2 ∨ k = 3 := by omega
    rcases h with rfl | rfl | rfl | rfl
    · exact F0u i v hi h1 h2
    · exact E1x i v hi h1 h2
    · exact F0a i v hi h1 h2
    · exact E4f i v hi h1 h2
  ver := fun _ _ _ => rfl
  id := fun _ _ _ => rfl
  ok := C8p
  inj := fun j k hj hk e => by
    obtain ⟨e0, e1, e2, e3⟩ := D1h
    have h : j = 0 ∨ j = 1 ∨ j = 2 ∨ j = 3 := by omega
    have h' : k = 0 ∨ k = 1 ∨ k = 2 ∨ k = 3 := by omega
    rcases h with rfl | rfl | rfl | rfl <;> rcases h' with rfl | rfl | rfl | rfl <;> first | rfl | (simp only [e0, e1, e2, e3] at e; exact absurd e (by decide))
end Go.Proofs.YtdfpoofbgjilgaaGreat
