/- The long division's guess: plain arithmetic, then the loop that mends it. -/
import Derived.Test.YtplioajciapojaaPqd
import Derived.Test.YtplioajciapojaaN8
namespace Go.Proofs.Ytplioajciapojaa.N
set_option linter.unusedVariables false
set_option linter.unusedSimpArgs false
open Go Go.RowKit Go.Proofs.YtplioajciapojaaW.PrintWords Go.Proofs.YtplioajciapojaaW.PrintLast Go.Proofs.YtplioajciapojaaW.PrintMore Go.Proofs.Ytplioajciapojaa.Pq

/-- X and D as their highest limbs and what is below: X = (top * B + u2) * Q + xl, D = (v1 * B + v2) * Q + dl -/
structure Two (X D top u2 v1 v2 Q xl dl : Int) : Prop where
  q : 0 < Q
  x : X = (top * 4294967296 + u2) * Q + xl
  d : D = (v1 * 4294967296 + v2) * Q + dl
  xl : 0 ≤ xl ∧ xl < Q
  dl : 0 ≤ dl ∧ dl < Q
  u2 : 0 ≤ u2 ∧ u2 < 4294967296
  v2 : 0 ≤ v2 ∧ v2 < 4294967296
  v1 : 0 < v1 ∧ v1 < 4294967296
  top : 0 ≤ top ∧ top < 18446744073709551616
  lt : X < 4294967296 * D
theorem Two.x0 {X D top u2 v1 v2 Q xl dl : Int} (h : Two X D top u2 v1 v2 Q xl dl) : 0 ≤ X := by
  have h1 : 0 ≤ (top * 4294967296 + u2) * Q := Int.mul_nonneg (by have := h.top; have := h.u2; omega) (by have := h.q; omega)
  have := h.x
  have := h.xl
  omega
theorem Two.d0 {X D top u2 v1 v2 Q xl dl : Int} (h : Two X D top u2 v1 v2 Q xl dl) : 4294967296 * Q ≤ D := by
  have h1 : 4294967296 * Q ≤ (v1 * 4294967296 + v2) * Q := Int.mul_le_mul_of_nonneg_right (by have := h.v1; have := h.v2; omega) (by have := h.q; omega)
  have := h.d
  have := h.dl
  omega
/-- too much -/
theorem Two.more {X D top u2 v1 v2 Q xl dl : Int} (h : Two X D top u2 v1 v2 Q xl dl) {g r : Int} (g0 : 0 ≤ g) (e : g * v1 + r = top) (hc : r * 4294967296 + u2 < g * v2) : X < g * D := by
  have h1 : (top * 4294967296 + u2 + 1) * Q ≤ (g * (v1 * 4294967296 + v2)) * Q := Int.mul_le_mul_of_nonneg_right (by
    have : g * (v1 * 4294967296 + v2) = (g * v1) * 4294967296 + g * v2 := by grind
    rw [this]
    omega) (by have := h.q; omega)
  have h2 : 0 ≤ g * dl := Int.mul_nonneg g0 h.dl.1
  have h3 : g * D = (g * (v1 * 4294967296 + v2)) * Q + g * dl := by rw [h.d]; grind
  have h4 : (top * 4294967296 + u2 + 1) * Q = (top * 4294967296 + u2) * Q + Q := by grind
  have := h.x
  have := h.xl
  omega
/-- at most one too much -/
theorem Two.less {X D top u2 v1 v2 Q xl dl : Int} (h : Two X D top u2 v1 v2 Q xl dl) {g r : Int} (g0 : 0 ≤ g) (g1 : g < 4294967296) (e : g * v1 + r = top) (hc : g * v2 ≤ r * 4294967296 + u2) : (g - 1) * D ≤ X := by
  have h1 : (g * (v1 * 4294967296 + v2)) * Q ≤ (top * 4294967296 + u2) * Q := Int.mul_le_mul_of_nonneg_right (by
    have : g * (v1 * 4294967296 + v2) = (g * v1) * 4294967296 + g * v2 := by grind
    rw [this]
    omega) (by have := h.q; omega)
  have h2 : g * dl ≤ 4294967296 * dl := Int.mul_le_mul_of_nonneg_right (by omega) h.dl.1
  have h3 : g * D = (g * (v1 * 4294967296 + v2)) * Q + g * dl := by rw [h.d]; grind
  have h4 : (g - 1) * D = g * D - D := by grind
  have := h.x
  have := h.xl
  have := h.dl
  have := h.d0
  omega
/-- the first guess is not too little -/
theorem Two.first {X D top u2 v1 v2 Q xl dl : Int} (h : Two X D top u2 v1 v2 Q xl dl) : X < (top / v1 + 1) * D := by
  have e := Int.emod_add_mul_ediv top v1
  have e1 := Int.emod_lt_of_pos top h.v1.1
  have h1 : (top + 1) ≤ (top / v1 + 1) * v1 := by grind
  have q := h.q
  have g0 : 0 ≤ top / v1 := Int.ediv_nonneg h.top.1 (by have := h.v1; omega)
  have h2 : (top + 1) * (4294967296 * Q) ≤ (top / v1 + 1) * v1 * (4294967296 * Q) := Int.mul_le_mul_of_nonneg_right h1 (by omega)
  have h3 : v1 * (4294967296 * Q) ≤ D := by
    rw [h.d]
    have : 0 ≤ v2 * Q := Int.mul_nonneg h.v2.1 (by omega)
    have := h.dl
    grind
  have h4 : (top / v1 + 1) * (v1 * (4294967296 * Q)) ≤ (top / v1 + 1) * D := Int.mul_le_mul_of_nonneg_left h3 (by omega)
  have h5 : X < (top + 1) * (4294967296 * Q) := by
    rw [h.x]
    have h6 : u2 * Q ≤ 4294967295 * Q := Int.mul_le_mul_of_nonneg_right (by have := h.u2; omega) (by omega)
    have := h.xl
    grind
  rw [← Int.mul_assoc] at h4
  omega
/-- a guess whose rest is a limb or more is less than a limb -/
theorem Two.small {X D top u2 v1 v2 Q xl dl : Int} (h : Two X D top u2 v1 v2 Q xl dl) {g r : Int} (e : g * v1 + r = top) (hr : 4294967296 ≤ r) : g < 4294967296 := by
  have q := h.q
  have h1 : top * 4294967296 * Q ≤ X := by
    rw [h.x]
    have : 0 ≤ u2 * Q := Int.mul_nonneg h.u2.1 (by omega)
    have := h.xl
    grind
  have h2 : D < (v1 * 4294967296 + v2 + 1) * Q := by
    rw [h.d]
    have := h.dl
    grind
  have h3 : top < v1 * 4294967296 + 4294967296 := by
    rcases Int.lt_or_le top (v1 * 4294967296 + 4294967296) with k | k
    · exact k
    · exfalso
      have h4 : (v1 * 4294967296 + v2 + 1) * Q ≤ top * Q := Int.mul_le_mul_of_nonneg_right (by have := h.v2; omega) (by omega)
      have := h.lt
      have : top * 4294967296 * Q = 4294967296 * (top * Q) := by grind
      omega
  have h5 : g * v1 < 4294967296 * v1 := by omega
  exact Int.lt_of_mul_lt_mul_right h5 (by have := h.v1; omega)
/-- what the loop keeps of a guess and its rest -/
structure Gs (X D top v1 g r : Int) : Prop where
  lt : X < (g + 1) * D
  e : g * v1 + r = top
  r : 0 ≤ r ∧ r < 4294967296
  g : 0 ≤ g ∧ g < 18446744073709551616
theorem Two.pos {X D top u2 v1 v2 Q xl dl : Int} (h : Two X D top u2 v1 v2 Q xl dl) {g : Int} (k : X < g * D) : 0 < g := by
  rcases Int.lt_or_le 0 g with h1 | h1
  · exact h1
  · exfalso
    have h2 : g * D ≤ 0 * D := Int.mul_le_mul_of_nonneg_right h1 (by have := h.d0; have := h.q; omega)
    have := h.x0
    omega
end Go.Proofs.Ytplioajciapojaa.N
