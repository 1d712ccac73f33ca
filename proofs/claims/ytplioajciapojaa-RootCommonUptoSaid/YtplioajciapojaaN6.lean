/- Shifting up, by value and a bound of the length; the number of bits of what is shifted. -/
import Derived.Test.YtplioajciapojaaN5
namespace Go.Proofs.Ytplioajciapojaa.N
set_option linter.unusedVariables false
set_option linter.unusedSimpArgs false
open Go.RowKit Go.Proofs.YtplioajciapojaaW.PrintWords Go.Proofs.YtplioajciapojaaW.PrintLast Go.Proofs.Ytplioajciapojaa.Pq

theorem two_pow_mono {m n : Nat} (h : m ≤ n) : (2 : Int) ^ m ≤ 2 ^ n := by
  obtain ⟨d, rfl⟩ := Nat.exists_eq_add_of_le h
  rw [Int.pow_add]
  have h1 : (0 : Int) < 2 ^ m := Int.pow_pos (by decide)
  have h2 : (0 : Int) < 2 ^ d := Int.pow_pos (by decide)
  have h3 : (2 : Int) ^ m * 1 ≤ 2 ^ m * 2 ^ d := Int.mul_le_mul_of_nonneg_left (by omega) (by omega)
  omega
theorem pow_lt_P {s : Nat} (h : s ≤ 65536) : (2 : Int) ^ s < P 2049 := by
  have h1 : (2 : Int) ^ s ≤ 2 ^ (32 * 2048) := two_pow_mono h
  rw [← P_pow 2048] at h1
  exact Int.lt_of_le_of_lt h1 (P_lt (by decide))
theorem Nm.shL {l : List Int} {n : Nat} {x : Int} (h : Nm l n x) {s : Int} (hs : s ≤ 65536) : Nm (N.L (x * 2 ^ s.toNat)) (n + 2049) (x * 2 ^ s.toNat) := by
  have hp : (0 : Int) < 2 ^ s.toNat := Int.pow_pos (by decide)
  refine Nm.L (Int.mul_nonneg h.pos (by omega)) ?_
  rw [P_add]
  have h1 : x * 2 ^ s.toNat ≤ x * (P 2049) := Int.mul_le_mul_of_nonneg_left (by have := pow_lt_P (s := s.toNat) (by omega); omega) h.pos
  have h2 : x * P 2049 < P n * P 2049 := Int.mul_lt_mul_of_pos_right h.lt (P_pos 2049)
  omega
theorem shS_ok {x s : Int} (h0 : 0 ≤ s) (h1 : s ≤ 65536) : shS x s = (L (x * 2 ^ s.toNat), true) := by
  unfold shS
  rw [if_neg (by omega), if_neg (by omega)]
theorem Nm.shS_len {l : List Int} {n : Nat} {x : Int} (h : Nm l n x) (s : Int) : (shS x s).1.length ≤ n + 2049 := by
  unfold shS
  split
  · simp
  · split
    · simp
    · exact (h.shL (by omega)).le
theorem Nm.shl {a : List Int} {n : Nat} {x : Int} (h : Nm a n x) (hn : n < 35184360000000) (s : Int) : Ev (fun k => nat_Shl.f k a s) (shS x s) := by
  have h1 := h.le
  have e := nshl_f h.w (by omega) s
  rwa [h.v] at e
theorem Nm.rshl {a : List Int} {n : Nat} {x : Int} (h : Nm a n x) (hn : n < 35184360000000) (s : Int) : Ev (fun k => penumbraref01_Shl.f k a s) (shS x s) := by
  have h1 := h.le
  have e := rshl_f h.w (by omega) s
  rwa [h.v] at e
theorem Nm.bits {a : List Int} {n : Nat} {x : Int} (h : Nm a n x) (hn : n < 35184360000000) : nat_Bits.f a = some (bl x) := by
  have h1 := h.le
  have e := nbits_f h.w (by unfold Sm; omega)
  rwa [h.v] at e
theorem Nm.rbits {a : List Int} {n : Nat} {x : Int} (h : Nm a n x) (hn : n < 35184360000000) : Ev (fun k => penumbraref01_Bits.f k a) (bl x) := by
  have h1 := h.le
  have e := rbits_f h.w (by unfold Sm; omega)
  rwa [h.v] at e
theorem Nm.rmul {a b : List Int} {m n : Nat} {x y : Int} (h : Nm a m x) (k : Nm b n y) (hm : m + n < 35184372087809) : Ev (fun r => penumbraref01_Mul.f r a b) (N.L (x * y)) := by
  have h1 := h.le
  have h2 := k.le
  have e := rmul_f h.w k.w (by omega)
  rwa [h.v, k.v] at e
theorem bl_shift {x : Int} (h : 0 < x) (n : Nat) : bl (x * 2 ^ n) = bl x + (n : Int) := by
  have h1 := bl_log h
  have hT : (0 : Int) < 2 ^ n := Int.pow_pos (by decide)
  have k1 : (2 : Int) ^ x.toNat.log2 * 2 ^ n ≤ x * 2 ^ n := Int.mul_le_mul_of_nonneg_right h1.1 (by omega)
  have k2 : x * 2 ^ n < (2 : Int) ^ (x.toNat.log2 + 1) * 2 ^ n := Int.mul_lt_mul_of_pos_right h1.2 hT
  rw [← Int.pow_add] at k1 k2
  rw [bl_of (m := x.toNat.log2 + n) k1 (by rw [show x.toNat.log2 + n + 1 = x.toNat.log2 + 1 + n by omega]; exact k2)]
  have e : bl x = (x.toNat.log2 : Int) + 1 := bl_of h1.1 h1.2
  omega
theorem Nm.bl_le {l : List Int} {n : Nat} {x : Int} (h : Nm l n x) : bl x ≤ 32 * (n : Int) := by
  by_cases hp : 0 < x
  · obtain ⟨i, hi, hr⟩ := rd_last hp
    have h1 := bl_V (W_L x) i hi hr
    rw [V_L h.pos] at h1
    have h2 := bl_32 (W_rd (W_L x) (i : Int)).2
    have h3 := h.norm.le
    omega
  · have := h.pos
    obtain rfl : x = 0 := by omega
    rw [bl_zero]
    omega
end Go.Proofs.Ytplioajciapojaa.N
