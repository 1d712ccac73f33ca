/- The long division, and the quotient and the rest of any two naturals: by values. -/
import Derived.Test.YtplioajciapojaaPqd
import Derived.Test.YtplioajciapojaaN11
namespace Go.Proofs.Ytplioajciapojaa.N
set_option linter.unusedVariables false
set_option linter.unusedSimpArgs false
open Go Go.RowKit Go.Proofs.YtplioajciapojaaW.PrintWords Go.Proofs.YtplioajciapojaaW.PrintLast Go.Proofs.YtplioajciapojaaW.PrintMore Go.Proofs.Ytplioajciapojaa.Pq

/-- shifted up until the highest limb's highest bit is 1: as many limbs as before -/
theorem shifted_length {y : Int} (hy : 0 < y) {i r : Nat} (hi : (L y).length = i + 1) (hr : (r : Int) = 32 - bl (rd (L y) (i : Int))) (hp : 0 < rd (L y) (i : Int)) : (L (y * 2 ^ r)).length = i + 1 := by
  have h1 := bl_V (W_L y) i hi hp
  rw [V_L (by omega)] at h1
  have h2 := bl_shift hy r
  have hpow : (0 : Int) < 2 ^ r := Int.pow_pos (by decide)
  have hpos : 0 < y * 2 ^ r := Int.mul_pos hy hpow
  have h3 := bl_log hpos
  have h4 : bl (y * 2 ^ r) = ((y * 2 ^ r).toNat.log2 : Int) + 1 := bl_of h3.1 h3.2
  have h5 : (y * 2 ^ r).toNat.log2 + 1 = 32 * (i + 1) := by omega
  rw [h5, ← P_pow] at h3
  have h6 : P i ≤ 2 ^ (y * 2 ^ r).toNat.log2 := by
    rw [P_pow]
    exact two_pow_mono (by omega)
  have h7 := L_length_le (i + 1) h3.2
  have h8 := L_length_lt (Int.le_trans h6 h3.1)
  omega
theorem L_le {x : Int} (h0 : 0 ≤ x) : x < P (L x).length := by
  have := V_lt (W_L x)
  rwa [V_L h0] at this
theorem P_le_of_length {y : Int} (hy : 0 ≤ y) {i : Nat} (hi : (L y).length = i + 1) : P i ≤ y := by
  rcases Int.lt_or_le y (P i) with h | h
  · have := L_length_le i h
    omega
  · exact h
/-- zeros are appended until there is a limb more than the dividend has -/
theorem long_l0 {a v : List Int} {A : Int} {r : Nat} {R : List Int × List Int} (ha : a.length < 35184372087800) {n : Nat} (hn : n ≤ a.length)
    (next : ∀ u, W u → u.length = a.length + 1 → Aside0 (V u = A) → Ev (fun k => nat_long.l1 k (r : Int) v u (n : Int) (List.replicate (a.length + 1 - n) 0) (((a.length + 1 - n : Nat) : Int) - 1)) R) :
    ∀ (d : Nat) (u : List Int), a.length + 1 - u.length = d → u.length ≤ a.length + 1 → W u → Aside0 (V u = A) → Ev (fun k => nat_long.l0 k a (r : Int) v u (n : Int)) R := by
  intro d
  induction d with
  | zero =>
    intro u hd hl hw hv
    have hul : u.length = a.length + 1 := by omega
    have w1 : wrap64 ((u.length : Int) - (n : Int)) = ((a.length + 1 - n : Nat) : Int) := by unfold wrap64; omega
    have w2 : wrap64 (((a.length + 1 - n : Nat) : Int) - 1) = ((a.length + 1 - n : Nat) : Int) - 1 := by unfold wrap64; omega
    refine Ev_up ?_
    unfold nat_long.l0
    rw [w1, w2, Int.toNat_natCast]
    refine Ev_neg (by omega) ?_
    refine Ev_pos (Int.natCast_nonneg _) ?_
    refine Ev_pos (by omega) ?_
    exact next u hw hul hv
  | succ d ih =>
    intro u hd hl hw hv
    refine Ev_up ?_
    unfold nat_long.l0
    refine Ev_pos (by omega) ?_
    refine Ev_pos (by omega) ?_
    refine ih (u ++ [0]) (by simp; omega) (by simp; omega) (W_append hw (W_one (by decide) (by decide))) ⟨?_⟩
    rw [V_snoc, Int.mul_zero, Int.add_zero]
    exact hv.out
theorem dg_start {x y : Int} {v u : List Int} {i r la : Nat} (hx0 : 0 ≤ x) (hxl : x < P la) (hyl : P i ≤ y) (hvv : V v = y * 2 ^ r) (hvl : v.length = i + 1) (hila : i + 1 ≤ la)
    (hu : W u) (hul : u.length = la + 1) (huv : V u = x * 2 ^ r) : Dg v (x * 2 ^ r) (la + 1) u (List.replicate (la + 1 - (i + 1)) 0) (la + 1 - (i + 1)) where
  wu := hu
  wq := W_replicate _
  lu := hul
  lq := by rw [List.length_replicate]; omega
  lt := by
    have hpow : (0 : Int) < 2 ^ r := Int.pow_pos (by decide)
    have h1 : P (la + 1 - (i + 1)) * P i ≤ P (la + 1 - (i + 1)) * y := Int.mul_le_mul_of_nonneg_left hyl (Int.le_of_lt (P_pos _))
    rw [← P_add, show la + 1 - (i + 1) + i = la by omega] at h1
    have h2 : x * 2 ^ r < P (la + 1 - (i + 1)) * y * 2 ^ r := Int.mul_lt_mul_of_pos_right (Int.lt_of_lt_of_le hxl h1) hpow
    rw [huv, hvv, ← Int.mul_assoc]
    exact h2
  e := by rw [V_replicate, Int.mul_zero, Int.add_zero, huv]
  z := fun m _ => rd_replicate _ _
theorem lz_f {t : Int} (h0 : 0 < t) (h1 : t < 4294967296) : bits_LeadingZeros32.f t = some (32 - bl t) := by
  have h2 := bl_pos h0
  have h3 := bl_32 h1
  unfold bits_LeadingZeros32.f
  rw [len32_f (Int.le_of_lt h0) h1, Option.bind_some, show wrap64 (32 - bl t) = 32 - bl t by unfold wrap64; omega]
theorem div_shift {x y : Int} (hy : 0 < y) (r : Nat) : x * 2 ^ r / (y * 2 ^ r) = x / y ∧ x * 2 ^ r % (y * 2 ^ r) / 2 ^ r = x % y := by
  have hpow : (0 : Int) < 2 ^ r := Int.pow_pos (by decide)
  constructor
  · exact Int.mul_ediv_mul_of_pos_left x y hpow
  · rw [Int.mul_comm x, Int.mul_comm y, Int.mul_emod_mul_of_pos _ _ hpow, Int.mul_comm]
    exact Int.mul_ediv_cancel _ (by omega)
theorem long_f {x y : Int} (hy : 0 < y) (hyx : y ≤ x) (h2 : 2 ≤ (L y).length) (hl : (L x).length < 35184360000000) : Ev (fun k => nat_long.f k (L x) (L y)) (L (x / y), L (x % y)) := by
  obtain ⟨i, hi, hp⟩ := rd_last hy
  have rt := W_rd (W_L y) (i : Int)
  have hb1 := bl_pos hp
  have hb2 := bl_32 rt.2
  obtain ⟨r, hr⟩ : ∃ r : Nat, (r : Int) = 32 - bl (rd (L y) (i : Int)) := ⟨(32 - bl (rd (L y) (i : Int))).toNat, by omega⟩
  have hr32 : r < 32 := by omega
  have hr65 : (r : Int) ≤ 65536 := by omega
  have hx0 : 0 ≤ x := by omega
  have hy0 : 0 ≤ y := by omega
  have hxl := L_le hx0
  have hyl := P_le_of_length hy0 hi
  have hvl := shifted_length hy hi hr hp
  have hila : i + 1 ≤ (L x).length := by
    have := L_length_lt (Int.le_trans hyl hyx)
    omega
  have hpow : (0 : Int) < 2 ^ r := Int.pow_pos (by decide)
  have hys : 0 < y * 2 ^ r := Int.mul_pos hy hpow
  have hxs : 0 ≤ x * 2 ^ r := Int.mul_nonneg hx0 (by omega)
  have hvv : V (L (y * 2 ^ r)) = y * 2 ^ r := V_L (by omega)
  have huv : V (L (x * 2 ^ r)) = x * 2 ^ r := V_L hxs
  obtain ⟨n, rfl⟩ : ∃ n, i = n + 1 := ⟨i - 1, by omega⟩
  obtain ⟨i', hi', hp'⟩ := rd_last hys
  have hii : i' = n + 1 := by omega
  subst hii
  have hul : (L (x * 2 ^ r)).length ≤ (L x).length + 1 := by
    refine L_length_le _ ?_
    rw [P_succ, Int.mul_comm 4294967296]
    have h3 := two_pow_le hr32
    have h4 : x * 2 ^ r < P (L x).length * 2 ^ r := Int.mul_lt_mul_of_pos_right hxl hpow
    have h5 : P (L x).length * 2 ^ r ≤ P (L x).length * 4294967296 := Int.mul_le_mul_of_nonneg_left h3 (Int.le_of_lt (P_pos _))
    omega
  have w1 : wrap64 (((L y).length : Int) - 1) = ((n + 1 : Nat) : Int) := by unfold wrap64; omega
  have c1 : ((n + 1 : Nat) : Int) < ((L y).length : Int) := by omega
  have c2 : (L y).length < 35184370000000 := by omega
  have c3 : (L x).length < 35184370000000 := by omega
  have c4 : (L x).length < 35184372087800 := by omega
  have c5 : (L x).length + 1 < 35184372087809 := by omega
  have c6 : (L (y * 2 ^ r)).length ≤ (L x).length := by omega
  have s1 := nshl_f (W_L y) c2 (r : Int)
  have s2 := nshl_f (W_L x) c3 (r : Int)
  rw [V_L hy0, shS_ok (Int.natCast_nonneg _) hr65, Int.toNat_natCast] at s1
  rw [V_L hx0, shS_ok (Int.natCast_nonneg _) hr65, Int.toNat_natCast] at s2
  have hds := div_shift (x := x) hy r
  unfold nat_long.f
  rw [w1]
  refine Ev_pos (Int.natCast_nonneg _) ?_
  refine Ev_pos c1 ?_
  refine Ev_some (lz_f hp rt.2) ?_
  rw [← hr]
  refine Ev.bind s1 ?_
  refine Ev.bind s2 ?_
  refine long_l0 c4 c6 (A := x * 2 ^ r) (fun u hu hul' huv' => ?_) _ _ rfl hul (W_L _) ⟨huv⟩
  have hdg := dg_start hx0 hxl hyl hvv (by omega : (L (y * 2 ^ r)).length = n + 1 + 1) hila hu hul' huv'.out
  have e := long_l1 (W_L (y * 2 ^ r)) hi' hp' c5 hr32 _ u _ (by rw [List.length_replicate]; exact Nat.le_refl _) hdg
  rw [hvv, hds.1, hds.2] at e
  rw [hvl]
  rw [hvl] at e
  exact e
/-- what DivMod answers -/
def dmS (x y : Int) : List Int × List Int × Bool := if y = 0 then ([], [], false) else (L (x / y), L (x % y), true)
theorem ndm_f {a b : List Int} (ha : W a) (hb : W b) (sa : a.length < 35184360000000) (sb : b.length < 35184360000000) : Ev (fun k => nat_DivMod.f k a b) (dmS (V a) (V b)) := by
  have va := V_nonneg ha
  have vb := V_nonneg hb
  have la := L_len_le ha
  have lb := L_len_le hb
  have hsa : Sm (L (V a)) := by unfold Sm; omega
  have hsb : Sm (L (V b)) := by unfold Sm; omega
  have sa' : (L (V a)).length < 35184372087809 := by omega
  have sa2 : (L (V a)).length < 35184360000000 := by omega
  refine Ev_some (trim_f ha) ?_
  refine Ev_some (trim_f hb) ?_
  generalize V a = x at *
  generalize V b = y at *
  unfold dmS
  by_cases hy : y = 0
  · subst hy
    rw [if_pos rfl, L_zero]
    refine Ev_pos rfl ?_
    exact Ev.now _
  · rw [if_neg hy]
    have hne : (L y).length ≠ 0 := fun e => hy ((L_nil_iff vb).1 (List.eq_nil_of_length_eq_zero e))
    have hyp : 0 < y := by omega
    have n1 : ¬ ((L y).length : Int) = 0 := by omega
    have hc := ncmp_f (W_L x) (W_L y) hsa hsb
    rw [V_L va, V_L vb] at hc
    refine Ev_neg n1 ?_
    refine Ev.bind hc ?_
    by_cases h : x < y
    · refine Ev_pos (cm_neg.2 h) ?_
      have hn := norm_f (W_L x) hsa
      rw [V_L va] at hn
      refine Ev_some hn ?_
      rw [Int.ediv_eq_zero_of_lt va h, Int.emod_eq_of_lt va h, L_zero]
      exact Ev.now _
    · refine Ev_neg (fun e => h (cm_neg.1 e)) ?_
      by_cases h1 : ((L y).length : Int) = 1
      · refine Ev_pos h1 ?_
        refine Ev_pos (by omega) ?_
        obtain ⟨z, hz⟩ := List.length_eq_one_iff.1 (show (L y).length = 1 by omega)
        have hv := V_L vb
        rw [hz, V_one] at hv
        subst hv
        have hw := W_L z
        rw [hz] at hw
        have hzb := hw z (List.mem_singleton.2 rfl)
        have hs := small_f (W_L x) (dv := z) ⟨hyp, hzb.2⟩ sa'
        rw [V_L va] at hs
        rw [hz]
        refine Ev.bind hs ?_
        exact Ev.now _
      · refine Ev_neg h1 ?_
        refine Ev.bind (long_f hyp (by omega) (by omega) sa2) ?_
        exact Ev.now _
end Go.Proofs.Ytplioajciapojaa.N
