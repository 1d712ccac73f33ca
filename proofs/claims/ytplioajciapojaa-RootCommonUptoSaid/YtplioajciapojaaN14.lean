/- The greatest common divisor, by value: both sides; whether one divides the other. -/
import Derived.Test.YtplioajciapojaaPqd
import Derived.Test.YtplioajciapojaaN13
namespace Go.Proofs.Ytplioajciapojaa.N
set_option linter.unusedVariables false
set_option linter.unusedSimpArgs false
open Go Go.RowKit Go.Proofs.YtplioajciapojaaW.PrintWords Go.Proofs.YtplioajciapojaaW.PrintLast Go.Proofs.YtplioajciapojaaW.PrintMore Go.Proofs.Ytplioajciapojaa.Pq

/-- the greatest common divisor -/
def gz (x y : Int) : Int := (Int.gcd x y : Int)
theorem gz_nonneg (x y : Int) : 0 ≤ gz x y := Int.natCast_nonneg _
theorem gz_nat (m n : Nat) : gz (m : Int) (n : Int) = (Nat.gcd m n : Int) := by
  unfold gz
  rw [Int.gcd_natCast_natCast]
theorem gz_zero {x : Int} (h : 0 ≤ x) : gz x 0 = x := by
  obtain ⟨m, rfl⟩ := Int.eq_ofNat_of_zero_le h
  have := gz_nat m 0
  rw [Nat.gcd_zero_right] at this
  exact this
theorem gz_step {x y : Int} (hx : 0 ≤ x) (hy : 0 ≤ y) : gz y (x % y) = gz x y := by
  obtain ⟨m, rfl⟩ := Int.eq_ofNat_of_zero_le hx
  obtain ⟨n, rfl⟩ := Int.eq_ofNat_of_zero_le hy
  have e : ((m : Int) % (n : Int)) = ((m % n : Nat) : Int) := rfl
  rw [e, gz_nat, gz_nat, Nat.gcd_comm n, ← Nat.gcd_rec, Nat.gcd_comm]
theorem gz_comm (x y : Int) : gz x y = gz y x := by unfold gz; rw [Int.gcd_comm]
theorem gz_dvd_left (x y : Int) : gz x y ∣ x := Int.gcd_dvd_left ..
theorem gz_dvd_right (x y : Int) : gz x y ∣ y := Int.gcd_dvd_right ..
theorem gz_of_dvd {c x y : Int} (h : c ∣ x) (k : c ∣ y) : c ∣ gz x y := Int.dvd_coe_gcd h k
theorem gz_lt {x y B : Int} (hx : 0 ≤ x) (hy : 0 ≤ y) (hxB : x < B) (hyB : y < B) : gz x y < B := by
  rcases Int.lt_or_eq_of_le hx with h | h
  · have := Int.le_of_dvd h (gz_dvd_left x y)
    omega
  · subst h
    rw [gz_comm, gz_zero hy]
    exact hyB
theorem gz_mul {x y z : Int} (hx : 0 ≤ x) (hy : 0 ≤ y) (hz : 0 ≤ z) : gz (x * z) (y * z) = gz x y * z := by
  obtain ⟨m, rfl⟩ := Int.eq_ofNat_of_zero_le hx
  obtain ⟨n, rfl⟩ := Int.eq_ofNat_of_zero_le hy
  obtain ⟨q, rfl⟩ := Int.eq_ofNat_of_zero_le hz
  rw [← Int.natCast_mul, ← Int.natCast_mul, gz_nat, gz_nat, Nat.gcd_mul_right, Int.natCast_mul]
theorem gz_add {x y z : Int} (hx : 0 ≤ x) (hy : 0 ≤ y) (hz : 0 ≤ z) : gz (x + y * z) y = gz x y := by
  have h1 := gz_step (x := x + y * z) (y := y) (Int.add_nonneg hx (Int.mul_nonneg hy hz)) hy
  have h2 := gz_step hx hy
  rw [Int.add_mul_emod_self_left] at h1
  rw [← h1, h2]
theorem gz_div {x y : Int} (hx : 0 ≤ x) (hy : 0 ≤ y) (h : 0 < gz x y) : gz (x / gz x y) (y / gz x y) = 1 := by
  have h1 := gz_mul (x := x / gz x y) (y := y / gz x y) (z := gz x y) (Int.ediv_nonneg hx (Int.le_of_lt h)) (Int.ediv_nonneg hy (Int.le_of_lt h)) (Int.le_of_lt h)
  rw [Int.ediv_mul_cancel (gz_dvd_left x y), Int.ediv_mul_cancel (gz_dvd_right x y)] at h1
  have h2 : gz (x / gz x y) (y / gz x y) * gz x y = 1 * gz x y := by rw [← h1, Int.one_mul]
  exact Int.eq_of_mul_eq_mul_right (by omega) h2
theorem L_len0 {x : Int} (h : 0 ≤ x) : ((L x).length : Int) = 0 ↔ x = 0 := by
  rw [← L_nil_iff h]
  constructor
  · intro e; exact List.eq_nil_of_length_eq_zero (by omega)
  · intro e; rw [e]; rfl
theorem dmS_pos {x y : Int} (h : 0 < y) : dmS x y = (L (x / y), L (x % y), true) := if_neg (by omega)
theorem gcd_l0 {N : Nat} (hN : N < 35184360000000) : ∀ (M : Nat) (x y : Int), y.toNat < M → 0 ≤ x → 0 ≤ y → x < P N → y < P N → Ev (fun k => root_Gcd.l0 k (L x) (L y)) (L (gz x y)) := by
  intro M
  induction M with
  | zero => intro x y h; omega
  | succ M ih =>
    intro x y hM hx hy hxN hyN
    have hl := L_len0 hy
    refine Ev_up ?_
    unfold root_Gcd.l0
    by_cases h0 : y = 0
    · have h1 : ¬ ((L y).length : Int) > 0 := by rw [hl.2 h0]; decide
      refine Ev_neg h1 ?_
      refine Ev_now ?_
      rw [h0, gz_zero hx]
    · have hp : 0 < y := by omega
      have h1 : ((L y).length : Int) > 0 := by
        have : ((L y).length : Int) ≠ 0 := fun e => h0 (hl.1 e)
        omega
      have m0 := Int.emod_nonneg x h0
      have m1 := Int.emod_lt_of_pos x hp
      refine Ev_pos h1 ?_
      refine Ev.bind ((Nm.L hx hxN).dm (Nm.L hy hyN) hN hN) ?_
      rw [dmS_pos hp, ← gz_step hx hy]
      exact ih y (x % y) (by omega) hy m0 hyN (by omega)
theorem Nm.gcd {a b : List Int} {m n : Nat} {x y : Int} (h : Nm a m x) (k : Nm b n y) (hm : m < 17592180000000) (hn : n < 17592180000000) : Ev (fun r => root_Gcd.f r a b) (N.L (gz x y)) := by
  refine Ev_some (h.nrm (by omega)) ?_
  refine Ev_some (k.nrm (by omega)) ?_
  exact gcd_l0 (N := m + n) (by omega) _ x y (Nat.lt_succ_self _) h.pos k.pos (Int.lt_of_lt_of_le h.lt (P_le (by omega))) (Int.lt_of_lt_of_le k.lt (P_le (by omega)))
theorem Nm.gcdL {a b : List Int} {m n : Nat} {x y : Int} (h : Nm a m x) (k : Nm b n y) : Nm (N.L (gz x y)) (m + n) (gz x y) :=
  Nm.L (gz_nonneg x y) (gz_lt h.pos k.pos (Int.lt_of_lt_of_le h.lt (P_le (by omega))) (Int.lt_of_lt_of_le k.lt (P_le (by omega))))
theorem rgcd_l0 {N : Nat} (hN : N < 8796093000000) : ∀ (M : Nat) (a b : List Int) (x y : Int), y.toNat < M → Nm a N x → Nm b N y → Ev (fun k => penumbraref02_Gcd.l0 k a b) (L (gz x y)) := by
  intro M
  induction M with
  | zero => intro a b x y h; omega
  | succ M ih =>
    intro a b x y hM hx hy
    have px := hx.pos
    have py := hy.pos
    refine Ev_up ?_
    unfold penumbraref02_Gcd.l0
    refine Ev.bind (hy.rzero (by omega)) ?_
    by_cases h0 : y = 0
    · refine Ev_pos (decide_eq_true h0) ?_
      refine Ev.bind (hx.rnrm (by omega)) ?_
      refine Ev_now ?_
      rw [h0, gz_zero px]
    · have hp : 0 < y := by omega
      have m0 := Int.emod_nonneg x h0
      have m1 := Int.emod_lt_of_pos x hp
      refine Ev_neg (by rw [decide_eq_true_iff]; exact h0) ?_
      refine Ev.bind (hx.rdm hy hN hN) ?_
      rw [dmS_pos hp, ← gz_step px py]
      exact ih b (L (x % y)) y (x % y) (by omega) hy (Nm.L m0 (Int.lt_trans m1 hy.lt))
theorem Nm.rgcd {a b : List Int} {m n : Nat} {x y : Int} (h : Nm a m x) (k : Nm b n y) (hm : m < 4398040000000) (hn : n < 4398040000000) : Ev (fun r => penumbraref02_Gcd.f r a b) (N.L (gz x y)) :=
  rgcd_l0 (N := m + n) (by omega) _ a b x y (Nat.lt_succ_self _) (h.up (by omega)) (k.up (by omega))
/-- whether one divides the other -/
theorem Nm.divides {d a : List Int} {m n : Nat} {x y : Int} (h : Nm d m x) (k : Nm a n y) (hm : m < 35184360000000) (hn : n < 35184360000000) : Ev (fun r => penumbralaw02_divides.f r d a) (decide (x ∣ y)) := by
  have px := h.pos
  have py := k.pos
  have hlx := L_len0 px
  have hly := L_len0 py
  refine Ev.bind (k.dm h hn hm) ?_
  have tail : Ev (fun _ => (nat_Norm.f a).bind fun t932 => (if (t932.length : Int) = 0 then ((nat_Norm.f d).bind fun t935 => (some ((t935.length : Int) == 0))) else (some false))) (decide (y = 0 ∧ x = 0)) := by
    refine Ev_some (k.nrm (by omega)) ?_
    by_cases hy : y = 0
    · refine Ev_pos (hly.2 hy) ?_
      refine Ev_some (h.nrm (by omega)) ?_
      refine Ev_now ?_
      congr 1
      rw [Bool.eq_iff_iff]
      simp [hy]
      exact L_nil_iff px
    · refine Ev_neg (fun e => hy (hly.1 e)) ?_
      refine Ev_now ?_
      simp [hy]
  by_cases h0 : x = 0
  · subst h0
    refine Ev_neg (by unfold dmS; simp) ?_
    refine Ev_eq tail ?_
    rw [Bool.eq_iff_iff]
    simp [Int.zero_dvd]
  · have hp : 0 < x := by omega
    have m0 := Int.emod_nonneg y h0
    have hlm := L_len0 m0
    rw [dmS_pos hp]
    refine Ev_pos rfl ?_
    by_cases hm0 : y % x = 0
    · refine Ev_pos (hlm.2 hm0) ?_
      refine Ev_now ?_
      rw [decide_eq_true (Int.dvd_of_emod_eq_zero hm0)]
    · refine Ev_neg (fun e => hm0 (hlm.1 e)) ?_
      refine Ev_eq tail ?_
      rw [Bool.eq_iff_iff]
      simp [h0]
      exact fun e => hm0 (Int.emod_eq_zero_of_dvd e)
end Go.Proofs.Ytplioajciapojaa.N
