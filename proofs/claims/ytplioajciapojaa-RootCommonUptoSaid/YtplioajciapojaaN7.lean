/- What dividing by one limb and shifting down come to: by values. -/
import Derived.Test.YtplioajciapojaaPqd
import Derived.Test.YtplioajciapojaaN6
namespace Go.Proofs.Ytplioajciapojaa.N
set_option linter.unusedVariables false
set_option linter.unusedSimpArgs false
open Go Go.RowKit Go.Proofs.YtplioajciapojaaW.PrintWords Go.Proofs.YtplioajciapojaaW.PrintLast Go.Proofs.YtplioajciapojaaW.PrintMore Go.Proofs.Ytplioajciapojaa.Pq

/-! ### by one limb -/
theorem div32_f {a b d : Int} (ha : 0 ≤ a ∧ a < d) (hb : 0 ≤ b ∧ b < 4294967296) (hd : d < 4294967296) : bits_Div32.f a b d = some ((a * 4294967296 + b) / d, (a * 4294967296 + b) % d) := if_pos ⟨ha, hb, hd⟩
theorem small_l {x : List Int} (hx : W x) {dv : Int} (hd : 0 < dv ∧ dv < 4294967296) (hl : x.length < 35184372087809) : ∀ (i : Nat) (o : List Int) (r : Int), i ≤ x.length → W o → o.length = x.length → 0 ≤ r ∧ r < dv →
    (∀ j : Nat, j < i → rd o (j : Int) = 0) → Aside0 (P i * r + dv * V o + V (x.take i) = V x) →
    Ev (fun k => nat_small.l0 k x dv o r ((i : Int) - 1)) (L (V x / dv), L (V x % dv)) := by
  intro i
  induction i with
  | zero =>
    intro o r hi hw ho hr hz HV
    refine Ev_up ?_
    unfold nat_small.l0
    refine Ev_neg (by omega) ?_
    refine Ev_some (trim_f hw) ?_
    refine Ev_some (trim_f (W_one hr.1 (by omega))) ?_
    refine Ev_now ?_
    have hv := HV.out
    rw [List.take_zero, V_nil, P_zero] at hv
    have h1 : V x / dv = V o := by
      rw [← hv, show 1 * r + dv * V o + 0 = r + dv * V o by omega, Int.add_mul_ediv_left _ _ (by omega), Int.ediv_eq_zero_of_lt hr.1 hr.2]
      omega
    have h2 : V x % dv = r := by
      rw [← hv, show 1 * r + dv * V o + 0 = r + dv * V o by omega, Int.add_mul_emod_self_left, Int.emod_eq_of_lt hr.1 hr.2]
    rw [h1, h2, V_one]
  | succ i ih =>
    intro o r hi hw ho hr hz HV
    have rx := W_rd hx (i : Int)
    have w1 : wrap64 (((i + 1 : Nat) : Int) - 1 - 1) = (i : Int) - 1 := by unfold wrap64; omega
    have w0 : ((i + 1 : Nat) : Int) - 1 = (i : Int) := by omega
    have q0 : 0 ≤ (r * 4294967296 + rd x (i : Int)) / dv := Int.ediv_nonneg (by omega) (by omega)
    have q1 : (r * 4294967296 + rd x (i : Int)) / dv < 4294967296 := Int.ediv_lt_of_lt_mul hd.1 (by omega)
    have r0 := Int.emod_nonneg (r * 4294967296 + rd x (i : Int)) (show dv ≠ 0 by omega)
    have r1 := Int.emod_lt_of_pos (r * 4294967296 + rd x (i : Int)) hd.1
    have key : Aside0 (P i * ((r * 4294967296 + rd x (i : Int)) % dv) + dv * V (o.set i ((r * 4294967296 + rd x (i : Int)) / dv)) + V (x.take i) = V x) := ⟨by
      have hv := HV.out
      have e := Int.emod_add_mul_ediv (r * 4294967296 + rd x (i : Int)) dv
      rw [V_set o i _ (by omega), hz i (by omega)]
      rw [V_take_succ' x i, P_succ] at hv
      clear ih hz
      grind⟩
    have hrec := ih (o.set i ((r * 4294967296 + rd x (i : Int)) / dv)) ((r * 4294967296 + rd x (i : Int)) % dv) (by omega) (W_set hw _ q0 q1) (by rw [List.length_set, ho]) ⟨r0, r1⟩
      (fun j hj => by rw [rd_set_ne _ _ _ _ (by omega)]; exact hz j (by omega)) key
    refine Ev_up ?_
    unfold nat_small.l0
    rw [w1, w0]
    refine Ev_pos (by omega) ?_
    refine Ev_pos (by omega) ?_
    refine Ev_pos (by omega) ?_
    refine Ev_some (div32_f hr rx hd.2) ?_
    rw [Int.toNat_natCast]
    refine Ev_pos (by omega) ?_
    exact hrec
theorem small_f {x : List Int} (hx : W x) {dv : Int} (hd : 0 < dv ∧ dv < 4294967296) (hl : x.length < 35184372087809) : Ev (fun k => nat_small.f k x dv) (L (V x / dv), L (V x % dv)) := by
  have w1 : wrap64 ((x.length : Int) - 1) = (x.length : Int) - 1 := by unfold wrap64; omega
  unfold nat_small.f
  refine Ev_pos (by omega) ?_
  refine Ev_pos (by omega) ?_
  rw [w1, Int.toNat_natCast]
  exact small_l hx hd hl x.length _ 0 (Nat.le_refl _) (W_replicate _) (by simp) ⟨by omega, hd.1⟩ (fun j _ => rd_replicate _ _) ⟨by simp [V_replicate]⟩
/-! ### shifting down -/
theorem V_drop (l : List Int) (i : Nat) : V (l.drop i) = rd l (i : Int) + 4294967296 * V (l.drop (i + 1)) := by
  by_cases h : i < l.length
  · rw [List.drop_eq_getElem_cons h, V_cons]
    simp [rd, List.getD_eq_getElem?_getD, h]
  · rw [rd_beyond l i (by simpa using h), List.drop_of_length_le (by omega), List.drop_of_length_le (by omega), V_nil]
    rfl
theorem or64_f {h x : Int} (hh : 0 ≤ h ∧ h < 4294967296) (hx : 0 ≤ x ∧ x < 4294967296) : Go.bits .or .u64 (h * 4294967296) x = h * 4294967296 + x :=
  bits_join .u64 64 (Nat.le_refl _) (fun n h0 h1 => wrap_u64_of h0 h1) 32 _ _ (by omega) (by omega) (by omega) hx.1 hx.2 (by omega)
theorem or64_w {h x : Int} (hh : 0 ≤ h ∧ h < 4294967296) (hx : 0 ≤ x ∧ x < 4294967296) : Go.bits .or .u64 (IntKind.u64.wrap (IntKind.u64.wrap h * 4294967296)) (IntKind.u64.wrap x) = h * 4294967296 + x := by
  rw [wrap_u64_of hh.1 (by omega), wrap_u64_of (x := h * 4294967296) (by omega) (by omega), wrap_u64_of hx.1 (by omega), or64_f hh hx]
theorem or64_z {x : Int} (hx : 0 ≤ x ∧ x < 4294967296) : Go.bits .or .u64 0 (IntKind.u64.wrap x) = 0 * 4294967296 + x := by
  rw [wrap_u64_of hx.1 (by omega)]
  exact or64_f (h := 0) (by omega) hx
/-- one limb of what is shifted down -/
theorem shr_limb {T U lo Y hi Z : Int} (hT : 0 < T) (hTU : T * U = 4294967296) (hlo : 0 ≤ lo ∧ lo < 4294967296) (hY : Y = hi + 4294967296 * Z) :
    (lo + 4294967296 * Y) / T = (hi * 4294967296 + lo) / T % 4294967296 + 4294967296 * (Y / T) := by
  have eY := Int.emod_add_mul_ediv Y T
  have eh := Int.emod_add_mul_ediv hi T
  have y0 := Int.emod_nonneg Y (show T ≠ 0 by omega)
  have y1 := Int.emod_lt_of_pos Y hT
  have em : hi % T = Y % T := by
    rw [hY, ← hTU, Int.mul_assoc, Int.add_mul_emod_self_left]
  have a1 : (lo + 4294967296 * Y) / T = (lo + 4294967296 * (Y % T)) / T + 4294967296 * (Y / T) := by
    rw [show lo + 4294967296 * Y = lo + 4294967296 * (Y % T) + T * (4294967296 * (Y / T)) by grind, Int.add_mul_ediv_left _ _ (by omega)]
  have a2 : (hi * 4294967296 + lo) / T = (lo + 4294967296 * (Y % T)) / T + 4294967296 * (hi / T) := by
    rw [show hi * 4294967296 + lo = lo + 4294967296 * (Y % T) + T * (4294967296 * (hi / T)) by grind, Int.add_mul_ediv_left _ _ (by omega)]
  have b0 : 0 ≤ (lo + 4294967296 * (Y % T)) / T := Int.ediv_nonneg (by omega) (by omega)
  have b1 : (lo + 4294967296 * (Y % T)) / T < 4294967296 := Int.ediv_lt_of_lt_mul hT (by omega)
  rw [a1, a2]
  generalize (lo + 4294967296 * (Y % T)) / T = d at *
  generalize hi / T = h2 at *
  omega
theorem shr_w {r : Nat} (hr : r < 32) (x : Int) : shr .u64 x (r : Int) = x / 2 ^ r := by
  unfold shr
  rw [Int.toNat_natCast, Nat.min_eq_left (show r ≤ IntKind.u64.bits by show r ≤ 64; omega)]
theorem nshr_l {l : List Int} (hl : W l) (hn : l.length < 35184372087809) {r : Nat} (hr : r < 32) : ∀ (d i : Nat) (o : List Int), l.length - i = d → i ≤ l.length → W o → o.length = l.length →
    Aside0 (V (o.take i) + P i * (V (l.drop i) / 2 ^ r) = V l / 2 ^ r) → Ev (fun k => nat_shr.l0 k l (r : Int) o l (l.length : Int) (i : Int)) (L (V l / 2 ^ r)) := by
  have hT : (0 : Int) < 2 ^ r := Int.pow_pos (by decide)
  have HTU : Aside0 ((2 : Int) ^ r * 2 ^ (32 - r) = 4294967296) := ⟨by rw [← Int.pow_add, show r + (32 - r) = 32 by omega]; rfl⟩
  have hT' := Aside0.mk hT
  clear hT
  intro d
  induction d with
  | zero =>
    intro i o hd hi hw ho HV
    obtain rfl : i = l.length := by omega
    refine Ev_up ?_
    unfold nat_shr.l0
    refine Ev_neg (by omega) ?_
    refine Ev_some (trim_f hw) ?_
    refine Ev_now ?_
    have hv := HV.out
    rw [List.drop_length, V_nil, V_take_all o _ (by omega), Int.zero_ediv, Int.mul_zero, Int.add_zero] at hv
    rw [hv]
  | succ d ih =>
    intro i o hd hi hw ho HV
    have w1 : wrap64 ((i : Int) + 1) = ((i + 1 : Nat) : Int) := by unfold wrap64; omega
    have rl := W_rd hl (i : Int)
    have rh := W_rd hl ((i + 1 : Nat) : Int)
    have SL := Aside0.mk (shr_limb hT'.out HTU.out rl (V_drop l (i + 1)))
    have D0 := Aside0.mk (V_drop l i)
    have hq0 : 0 ≤ (rd l ((i + 1 : Nat) : Int) * 4294967296 + rd l (i : Int)) / 2 ^ r % 4294967296 := Int.emod_nonneg _ (by decide)
    have hq1 : (rd l ((i + 1 : Nat) : Int) * 4294967296 + rd l (i : Int)) / 2 ^ r % 4294967296 < 4294967296 := Int.emod_lt_of_pos _ (by decide)
    have hrec := ih (i + 1) (o.set i ((rd l ((i + 1 : Nat) : Int) * 4294967296 + rd l (i : Int)) / 2 ^ r % 4294967296)) (by omega) (by omega) (W_set hw _ hq0 hq1) (by rw [List.length_set, ho]) ⟨by
      have hv := HV.out
      rw [D0.out, SL.out] at hv
      rw [V_take_succ' _ i, rd_set_eq _ _ _ (by omega), P_succ, show (o.set i ((rd l ((i + 1 : Nat) : Int) * 4294967296 + rd l (i : Int)) / 2 ^ r % 4294967296)).take i = o.take i by rw [List.take_set_of_le (Nat.le_refl _)]]
      clear ih
      grind⟩
    refine Ev_up ?_
    unfold nat_shr.l0
    rw [w1, Int.toNat_natCast]
    refine Ev_pos (by omega) ?_
    refine Ev_pos (by omega) ?_
    refine Ev_pos (by omega) ?_
    by_cases hh : ((i + 1 : Nat) : Int) < (l.length : Int)
    · refine Ev_pos hh ?_
      refine Ev_pos (by omega) ?_
      refine Ev_pos (by omega) ?_
      refine Ev_pos (by omega) ?_
      rw [or64_w rh rl, shr_w hr]
      exact hrec
    · rw [rd_beyond l ((i + 1 : Nat) : Int) (by omega)] at hrec
      refine Ev_neg hh ?_
      refine Ev_pos (by omega) ?_
      refine Ev_pos (by omega) ?_
      rw [or64_z rl, shr_w hr]
      exact hrec
theorem nshr_f {l : List Int} (hl : W l) (hn : l.length < 35184372087809) {r : Nat} (hr : r < 32) : Ev (fun k => nat_shr.f k l (r : Int)) (L (V l / 2 ^ r)) := by
  unfold nat_shr.f
  refine Ev_pos (by omega) ?_
  refine Ev_pos (by omega) ?_
  rw [Int.toNat_natCast]
  exact nshr_l hl hn hr _ 0 _ rfl (Nat.zero_le _) (W_replicate _) (by simp) ⟨by simp [V_nil, P_zero]⟩
end Go.Proofs.Ytplioajciapojaa.N
