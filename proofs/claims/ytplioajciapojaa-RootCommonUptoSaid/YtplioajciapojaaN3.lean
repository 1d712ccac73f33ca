/- What the number of bits comes to: by values. -/
import Derived.Test.YtplioajciapojaaPqd
import Derived.Test.YtplioajciapojaaN1
namespace Go.Proofs.Ytplioajciapojaa.N
set_option linter.unusedVariables false
set_option linter.unusedSimpArgs false
open Go.RowKit Go.Proofs.YtplioajciapojaaW.PrintWords Go.Proofs.YtplioajciapojaaW.PrintLast Go.Proofs.Ytplioajciapojaa.Pq

/-- the number of bits of a value -/
def bl (n : Int) : Int := if 0 < n then (Nat.log2 n.toNat : Int) + 1 else 0
theorem bl_zero : bl 0 = 0 := by decide +kernel
theorem bl_nonneg (n : Int) : 0 ≤ bl n := by unfold bl; split <;> omega
theorem bl_pos {n : Int} (h : 0 < n) : 0 < bl n := by unfold bl; rw [if_pos h]; omega
theorem bl_half {x : Int} (h : 0 < x) : bl x = bl (x / 2) + 1 := by
  unfold bl
  rw [if_pos h, Nat.log2_def]
  by_cases h2 : x.toNat ≥ 2
  · rw [if_pos h2, if_pos (by omega), show (x / 2).toNat = x.toNat / 2 by omega]
    omega
  · rw [if_neg h2, if_neg (by omega)]
    rfl
theorem bl_log {n : Int} (h : 0 < n) : (2 : Int) ^ (n.toNat.log2) ≤ n ∧ n < (2 : Int) ^ (n.toNat.log2 + 1) := by
  have hne : n.toNat ≠ 0 := by omega
  have h1 := Nat.log2_self_le hne
  have h2 := (Nat.log2_lt (k := n.toNat.log2 + 1) hne).1 (Nat.lt_succ_self _)
  have e : n = (n.toNat : Int) := by omega
  constructor
  · rw [e]; exact_mod_cast h1
  · rw [e]; exact_mod_cast h2
theorem bl_of {n : Int} {m : Nat} (h1 : (2 : Int) ^ m ≤ n) (h2 : n < (2 : Int) ^ (m + 1)) : bl n = (m : Int) + 1 := by
  have hp : (0 : Int) < 2 ^ m := Int.pow_pos (by decide)
  have hn : 0 < n := by omega
  obtain ⟨k, rfl⟩ : ∃ k : Nat, n = (k : Int) := ⟨n.toNat, by omega⟩
  have g1 : 2 ^ m ≤ k := by exact_mod_cast h1
  have g2 : k < 2 ^ (m + 1) := by exact_mod_cast h2
  have hk : k ≠ 0 := by omega
  have e1 := (Nat.le_log2 (k := m) hk).2 g1
  have e2 := (Nat.log2_lt (k := m + 1) hk).2 g2
  unfold bl
  rw [if_pos hn, Int.toNat_natCast]
  omega
theorem bl_le {m n : Int} (h : m ≤ n) : bl m ≤ bl n := by
  by_cases hm : 0 < m
  · unfold bl
    rw [if_pos hm, if_pos (by omega)]
    have hn0 : n.toNat ≠ 0 := by omega
    have h1 := Nat.log2_self_le (n := m.toNat) (by omega)
    have := (Nat.le_log2 (k := m.toNat.log2) hn0).2 (by omega)
    omega
  · have := bl_nonneg n
    have e : bl m = 0 := by unfold bl; rw [if_neg hm]
    omega
theorem P_pow (i : Nat) : P i = (2 : Int) ^ (32 * i) := by
  induction i with
  | zero => exact P_zero
  | succ i ih => rw [P_succ, ih, show 32 * (i + 1) = 32 * i + 32 by omega, Int.pow_add]; omega
theorem bl_V {l : List Int} (hw : W l) (i : Nat) (hi : l.length = i + 1) (hp : 0 < rd l (i : Int)) : bl (V l) = 32 * (i : Int) + bl (rd l (i : Int)) := by
  have h := bl_log hp
  have hv := V_take_succ' l i
  rw [List.take_of_length_le (by omega)] at hv
  have h0 := V_nonneg (W_take hw i)
  have h1 := V_take_lt hw i
  have hP := P_pos i
  have k1 : P i * (2 : Int) ^ ((rd l (i : Int)).toNat.log2) ≤ P i * rd l (i : Int) := Int.mul_le_mul_of_nonneg_left h.1 (by omega)
  have k2 : P i * (rd l (i : Int) + 1) ≤ P i * (2 : Int) ^ ((rd l (i : Int)).toNat.log2 + 1) := Int.mul_le_mul_of_nonneg_left (by omega) (by omega)
  rw [Int.mul_add] at k2
  have e1 : (2 : Int) ^ (32 * i + (rd l (i : Int)).toNat.log2) = P i * (2 : Int) ^ ((rd l (i : Int)).toNat.log2) := by rw [Int.pow_add, P_pow]
  have e2 : (2 : Int) ^ (32 * i + (rd l (i : Int)).toNat.log2 + 1) = P i * (2 : Int) ^ ((rd l (i : Int)).toNat.log2 + 1) := by rw [Nat.add_assoc, Int.pow_add, P_pow]
  rw [bl_of (m := 32 * i + (rd l (i : Int)).toNat.log2) (by rw [e1]; omega) (by rw [e2]; omega)]
  unfold bl
  rw [if_pos hp]
  omega
theorem rd_last {n : Int} (h : 0 < n) : ∃ i, (L n).length = i + 1 ∧ 0 < rd (L n) (i : Int) := by
  have hne : L n ≠ [] := fun e => by
    have := (L_nil_iff (by omega)).1 e
    omega
  have hl := List.length_pos_iff.2 hne
  refine ⟨(L n).length - 1, by omega, ?_⟩
  have h1 := L_last hne
  have h2 := W_rd (W_L n) (((L n).length - 1 : Nat) : Int)
  have e : rd (L n) (((L n).length - 1 : Nat) : Int) = (L n).getLast hne := by
    rw [List.getLast_eq_getElem]
    simp only [rd, Int.toNat_natCast, List.getD_eq_getElem?_getD]
    rw [List.getElem?_eq_getElem (by omega), Option.getD_some]
  omega
attribute [irreducible] bl
theorem tab_bl' : ∀ y : Fin 256, bt (⟨#[0, 1, 2, 2, 3, 3, 3, 3, 4, 4, 4, 4, 4, 4, 4, 4, 5, 5, 5, 5, 5, 5, 5, 5, 5, 5, 5, 5, 5, 5, 5, 5, 6, 6, 6, 6, 6, 6, 6, 6, 6, 6, 6, 6, 6, 6, 6, 6, 6, 6, 6, 6, 6, 6, 6, 6, 6, 6, 6, 6, 6, 6, 6, 6, 7, 7, 7, 7, 7, 7, 7, 7, 7, 7, 7, 7, 7, 7, 7, 7, 7, 7, 7, 7, 7, 7, 7, 7, 7, 7, 7, 7, 7, 7, 7, 7, 7, 7, 7, 7, 7, 7, 7, 7, 7, 7, 7, 7, 7, 7, 7, 7, 7, 7, 7, 7, 7, 7, 7, 7, 7, 7, 7, 7, 7, 7, 7, 7, 8, 8, 8, 8, 8, 8, 8, 8, 8, 8, 8, 8, 8, 8, 8, 8, 8, 8, 8, 8, 8, 8, 8, 8, 8, 8, 8, 8, 8, 8, 8, 8, 8, 8, 8, 8, 8, 8, 8, 8, 8, 8, 8, 8, 8, 8, 8, 8, 8, 8, 8, 8, 8, 8, 8, 8, 8, 8, 8, 8, 8, 8, 8, 8, 8, 8, 8, 8, 8, 8, 8, 8, 8, 8, 8, 8, 8, 8, 8, 8, 8, 8, 8, 8, 8, 8, 8, 8, 8, 8, 8, 8, 8, 8, 8, 8, 8, 8, 8, 8, 8, 8, 8, 8, 8, 8, 8, 8, 8, 8, 8, 8, 8, 8, 8, 8, 8, 8, 8, 8, 8, 8, 8, 8, 8, 8, 8, 8]⟩ : ByteArray) (y.val : Int) = bl (y.val : Int) := by decide +kernel
set_option maxRecDepth 20000 in
theorem tab_bl {y : Int} (h0 : 0 ≤ y) (h1 : y < 256) : bt (⟨#[0, 1, 2, 2, 3, 3, 3, 3, 4, 4, 4, 4, 4, 4, 4, 4, 5, 5, 5, 5, 5, 5, 5, 5, 5, 5, 5, 5, 5, 5, 5, 5, 6, 6, 6, 6, 6, 6, 6, 6, 6, 6, 6, 6, 6, 6, 6, 6, 6, 6, 6, 6, 6, 6, 6, 6, 6, 6, 6, 6, 6, 6, 6, 6, 7, 7, 7, 7, 7, 7, 7, 7, 7, 7, 7, 7, 7, 7, 7, 7, 7, 7, 7, 7, 7, 7, 7, 7, 7, 7, 7, 7, 7, 7, 7, 7, 7, 7, 7, 7, 7, 7, 7, 7, 7, 7, 7, 7, 7, 7, 7, 7, 7, 7, 7, 7, 7, 7, 7, 7, 7, 7, 7, 7, 7, 7, 7, 7, 8, 8, 8, 8, 8, 8, 8, 8, 8, 8, 8, 8, 8, 8, 8, 8, 8, 8, 8, 8, 8, 8, 8, 8, 8, 8, 8, 8, 8, 8, 8, 8, 8, 8, 8, 8, 8, 8, 8, 8, 8, 8, 8, 8, 8, 8, 8, 8, 8, 8, 8, 8, 8, 8, 8, 8, 8, 8, 8, 8, 8, 8, 8, 8, 8, 8, 8, 8, 8, 8, 8, 8, 8, 8, 8, 8, 8, 8, 8, 8, 8, 8, 8, 8, 8, 8, 8, 8, 8, 8, 8, 8, 8, 8, 8, 8, 8, 8, 8, 8, 8, 8, 8, 8, 8, 8, 8, 8, 8, 8, 8, 8, 8, 8, 8, 8, 8, 8, 8, 8, 8, 8, 8, 8, 8, 8, 8, 8]⟩ : ByteArray) y = bl y := by
  have h : bt (⟨#[0, 1, 2, 2, 3, 3, 3, 3, 4, 4, 4, 4, 4, 4, 4, 4, 5, 5, 5, 5, 5, 5, 5, 5, 5, 5, 5, 5, 5, 5, 5, 5, 6, 6, 6, 6, 6, 6, 6, 6, 6, 6, 6, 6, 6, 6, 6, 6, 6, 6, 6, 6, 6, 6, 6, 6, 6, 6, 6, 6, 6, 6, 6, 6, 7, 7, 7, 7, 7, 7, 7, 7, 7, 7, 7, 7, 7, 7, 7, 7, 7, 7, 7, 7, 7, 7, 7, 7, 7, 7, 7, 7, 7, 7, 7, 7, 7, 7, 7, 7, 7, 7, 7, 7, 7, 7, 7, 7, 7, 7, 7, 7, 7, 7, 7, 7, 7, 7, 7, 7, 7, 7, 7, 7, 7, 7, 7, 7, 8, 8, 8, 8, 8, 8, 8, 8, 8, 8, 8, 8, 8, 8, 8, 8, 8, 8, 8, 8, 8, 8, 8, 8, 8, 8, 8, 8, 8, 8, 8, 8, 8, 8, 8, 8, 8, 8, 8, 8, 8, 8, 8, 8, 8, 8, 8, 8, 8, 8, 8, 8, 8, 8, 8, 8, 8, 8, 8, 8, 8, 8, 8, 8, 8, 8, 8, 8, 8, 8, 8, 8, 8, 8, 8, 8, 8, 8, 8, 8, 8, 8, 8, 8, 8, 8, 8, 8, 8, 8, 8, 8, 8, 8, 8, 8, 8, 8, 8, 8, 8, 8, 8, 8, 8, 8, 8, 8, 8, 8, 8, 8, 8, 8, 8, 8, 8, 8, 8, 8, 8, 8, 8, 8, 8, 8, 8, 8]⟩ : ByteArray) (y.toNat : Int) = bl (y.toNat : Int) := tab_bl' ⟨y.toNat, by omega⟩
  rw [show ((y.toNat : Nat) : Int) = y by omega] at h
  exact h
theorem bl_shift8 {x : Int} (h : 256 ≤ x) : bl x = bl (x / 256) + 8 := by
  rw [bl_half (x := x) (by omega), bl_half (x := x / 2) (by omega), bl_half (x := x / 2 / 2) (by omega), bl_half (x := x / 2 / 2 / 2) (by omega), bl_half (x := x / 2 / 2 / 2 / 2) (by omega),
    bl_half (x := x / 2 / 2 / 2 / 2 / 2) (by omega), bl_half (x := x / 2 / 2 / 2 / 2 / 2 / 2) (by omega), bl_half (x := x / 2 / 2 / 2 / 2 / 2 / 2 / 2) (by omega), show x / 2 / 2 / 2 / 2 / 2 / 2 / 2 / 2 = x / 256 by omega]
  omega
theorem bl_small {x : Int} (h0 : 0 ≤ x) (h1 : x < 256) : 0 ≤ bl x ∧ bl x ≤ 8 := by
  refine ⟨bl_nonneg x, ?_⟩
  have := bl_le (show x ≤ 255 by omega)
  have e : bl 255 = 8 := by decide +kernel
  omega
set_option maxRecDepth 20000 in
theorem len32_f {x : Int} (h0 : 0 ≤ x) (h1 : x < 4294967296) : bits_Len32.f x = some (bl x) := by
  unfold bits_Len32.f
  by_cases c1 : x ≥ 65536
  · rw [if_pos c1]
    by_cases c2 : x / 65536 ≥ 256
    · rw [if_pos c2, if_pos (by omega), if_pos (by omega), show x / 65536 / 256 % 256 = x / 65536 / 256 by omega, tab_bl (by omega) (by omega)]
      have := bl_small (x := x / 65536 / 256) (by omega) (by omega)
      rw [bl_shift8 (x := x) (by omega), bl_shift8 (x := x / 256) (by omega), bl_shift8 (x := x / 256 / 256) (by omega), show x / 256 / 256 / 256 = x / 65536 / 256 by omega]
      unfold wrap64
      refine congrArg some ?_
      omega
    · rw [if_neg c2, if_pos (by omega), if_pos (by omega), show x / 65536 % 256 = x / 65536 by omega, tab_bl (by omega) (by omega)]
      have := bl_small (x := x / 65536) (by omega) (by omega)
      rw [bl_shift8 (x := x) (by omega), bl_shift8 (x := x / 256) (by omega), show x / 256 / 256 = x / 65536 by omega]
      unfold wrap64
      refine congrArg some ?_
      omega
  · rw [if_neg c1]
    by_cases c2 : x ≥ 256
    · rw [if_pos c2, if_pos (by omega), if_pos (by omega), show x / 256 % 256 = x / 256 by omega, tab_bl (by omega) (by omega)]
      have := bl_small (x := x / 256) (by omega) (by omega)
      rw [bl_shift8 (x := x) (by omega)]
      unfold wrap64
      refine congrArg some ?_
      omega
    · rw [if_neg c2, if_pos (by omega), if_pos (by omega), show x % 256 = x by omega, tab_bl (by omega) (by omega)]
      have := bl_small (x := x) (by omega) (by omega)
      unfold wrap64
      refine congrArg some ?_
      omega
theorem bl_32 {x : Int} (h1 : x < 4294967296) : bl x ≤ 32 := by
  have := bl_le (show x ≤ 4294967295 by omega)
  have e : bl 4294967295 = 32 := by decide +kernel
  omega
theorem bits_arith {n i t : Int} (h : n = i + 1) (hi : 0 ≤ i) (hn : n < 35184372087809) (h0 : 0 ≤ t) (h1 : t ≤ 32) : wrap64 (wrap64 (32 * n) - wrap64 (32 - t)) = 32 * i + t := by
  unfold wrap64
  omega
theorem nbits_f {a : List Int} (ha : W a) (sa : Sm a) : nat_Bits.f a = some (bl (V a)) := by
  have va := V_nonneg ha
  have la := L_len_le ha
  have sa' : a.length < 35184372087809 := sa
  unfold nat_Bits.f
  rw [trim_f ha, Option.bind_some]
  by_cases hz : V a = 0
  · rw [hz, L_zero, bl_zero]
    exact if_pos rfl
  · obtain ⟨i, hi, hp⟩ := rd_last (n := V a) (by omega)
    have w1 : wrap64 (((L (V a)).length : Int) - 1) = (i : Int) := by unfold wrap64; omega
    have hb := bl_V (W_L (V a)) i hi hp
    rw [V_L va] at hb
    have hr := W_rd (W_L (V a)) (i : Int)
    have h32 := bl_32 hr.2
    have h32' := bl_nonneg (rd (L (V a)) (i : Int))
    rw [if_neg (by omega), w1, if_pos (by omega), if_pos (by omega)]
    unfold bits_LeadingZeros32.f
    rw [len32_f hr.1 hr.2, Option.bind_some, Option.bind_some, hb]
    exact congrArg some (bits_arith (by omega) (by omega) (by omega) h32' h32)
theorem rbits_l : ∀ (n : Nat) (x c : Int), x.toNat ≤ n → 0 ≤ x → x < 4294967296 → 0 ≤ c → c + bl x < 4611686018427387904 → Ev (fun k => penumbraref01_Bits.l0 k c x) (c + bl x) := by
  intro n
  induction n with
  | zero =>
    intro x c hn h0 h1 c0 c1
    obtain rfl : x = 0 := by omega
    refine Ev_up ?_
    unfold penumbraref01_Bits.l0
    refine Ev_neg (by omega) ?_
    rw [bl_zero, Int.add_zero]
    exact Ev.now _
  | succ n ih =>
    intro x c hn h0 h1 c0 c1
    refine Ev_up ?_
    unfold penumbraref01_Bits.l0
    by_cases hx : x > 0
    · have hb := bl_half hx
      have hb0 := bl_nonneg (x / 2)
      refine Ev_pos hx ?_
      rw [Int.tdiv_eq_ediv_of_nonneg h0, show x / 2 % 4294967296 = x / 2 by omega, show wrap64 (c + 1) = c + 1 by unfold wrap64; omega]
      refine Ev_eq (ih (x / 2) (c + 1) (by omega) (by omega) (by omega) (by omega) (by omega)) ?_
      omega
    · refine Ev_neg hx ?_
      obtain rfl : x = 0 := by omega
      rw [bl_zero, Int.add_zero]
      exact Ev.now _
theorem rbits_f {a : List Int} (ha : W a) (sa : Sm a) : Ev (fun k => penumbraref01_Bits.f k a) (bl (V a)) := by
  have va := V_nonneg ha
  have la := L_len_le ha
  have sa' : a.length < 35184372087809 := sa
  refine Ev.bind (rnorm_f ha (by omega)) ?_
  by_cases hz : V a = 0
  · rw [hz, L_zero, bl_zero]
    refine Ev_pos rfl ?_
    exact Ev.now _
  · obtain ⟨i, hi, hp⟩ := rd_last (n := V a) (by omega)
    have w1 : wrap64 (((L (V a)).length : Int) - 1) = (i : Int) := by unfold wrap64; omega
    have w2 : wrap64 (32 * (i : Int)) = 32 * (i : Int) := by unfold wrap64; omega
    have hb := bl_V (W_L (V a)) i hi hp
    rw [V_L va] at hb
    have hr := W_rd (W_L (V a)) (i : Int)
    have h32 := bl_32 hr.2
    refine Ev_neg (by omega) ?_
    rw [w1, w2]
    refine Ev_pos (by omega) ?_
    refine Ev_pos (by omega) ?_
    rw [hb]
    exact rbits_l _ _ _ (Nat.le_refl _) hr.1 hr.2 (by omega) (by omega)
end Go.Proofs.Ytplioajciapojaa.N
