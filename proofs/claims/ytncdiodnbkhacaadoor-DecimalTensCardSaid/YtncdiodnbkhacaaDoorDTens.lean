import Derived.Test.YtncdiodnbkhacaaDoorDTens5
import Derived.Test.YtncdiodnbkhacaaDoorCards
import Derived.Test.YtncdiodnbkhacaaDoorProg
import Derived.Test.YtncdiodnbkhacaaDoorRows
import Derived.Test.YtncdiodnbkhacaaDoorTie
section
namespace Go.Proofs.YtncdiodnbkhacaaDoor.N
set_option linter.unusedVariables false
set_option linter.unusedSimpArgs false
open Go Go.RowKit Go.Proofs.YtncdiodnbkhacaaDoorW.PrintWords Go.Proofs.YtncdiodnbkhacaaDoorW.PrintLast Go.Proofs.YtncdiodnbkhacaaDoorW.PrintMore Go.Proofs.YtncdiodnbkhacaaDoor.Pq
theorem div32_f {a b d : Int} (ha : 0 ≤ a ∧ a < d) (hb : 0 ≤ b ∧ b < 4294967296) (hd : d < 4294967296) : bits_Div32.f a b d = some ((a * 4294967296 + b) / d, (a * 4294967296 + b) % d) := if_pos ⟨ha, hb, hd⟩
theorem small_l {x : List Int} (hx : W x) {dv : Int} (hd : 0 < dv ∧ dv < 4294967296) (hl : x.length < 35184372087809) : ∀ (i : Nat) (o : List Int) (r : Int), i ≤ x.length → W o → o.length = x.length → 0 ≤ r ∧ r < dv →
  (∀ j : Nat, j < i → rd o (j : Int) = 0) → Aside0 (P i * r + dv * V o + V (x.take i) = V x) →
  Ev (fun k => nat_small.l0 k x dv o r ((i : Int) - 1)) (L (V x / dv), L (V x % dv)) := by
 intro i
 induction i with
 | zero =>
  intro o r hi hw ho hr hz HV
  refine Ev_up ?_
  unfold nat_small.l0
  refine Ev_neg (by omega) ?_
  refine Ev_some (trim_f hw) ?_
  refine Ev_some (trim_f (W_one hr.1 (by omega))) ?_
  refine Ev_now ?_
  have hv := HV.out
  rw [List.take_zero, V_nil, P_zero] at hv
  have h1 : V x / dv = V o := by
   rw [← hv, show 1 * r + dv * V o + 0 = r + dv * V o by omega, Int.add_mul_ediv_left _ _ (by omega), Int.ediv_eq_zero_of_lt hr.1 hr.2]
   omega
  have h2 : V x % dv = r := by
   rw [← hv, show 1 * r + dv * V o + 0 = r + dv * V o by omega, Int.add_mul_emod_self_left, Int.emod_eq_of_lt hr.1 hr.2]
  rw [h1, h2, V_one]
 | succ i ih =>
  intro o r hi hw ho hr hz HV
  have rx := W_rd hx (i : Int)
  have w1 : wrap64 (((i + 1 : Nat) : Int) - 1 - 1) = (i : Int) - 1 := by unfold wrap64; omega
  have w0 : ((i + 1 : Nat) : Int) - 1 = (i : Int) := by omega
  have q0 : 0 ≤ (r * 4294967296 + rd x (i : Int)) / dv := Int.ediv_nonneg (by omega) (by omega)
  have q1 : (r * 4294967296 + rd x (i : Int)) / dv < 4294967296 := Int.ediv_lt_of_lt_mul hd.1 (by omega)
  have r0 := Int.emod_nonneg (r * 4294967296 + rd x (i : Int)) (show dv ≠ 0 by omega)
  have r1 := Int.emod_lt_of_pos (r * 4294967296 + rd x (i : Int)) hd.1
  have key : Aside0 (P i * ((r * 4294967296 + rd x (i : Int)) % dv) + dv * V (o.set i ((r * 4294967296 + rd x (i : Int)) / dv)) + V (x.take i) = V x) := ⟨by
   have hv := HV.out
   have e := Int.emod_add_mul_ediv (r * 4294967296 + rd x (i : Int)) dv
   rw [V_set o i _ (by omega), hz i (by omega)]
   rw [V_take_succ' x i, P_succ] at hv
   clear ih hz
   grind⟩
  have hrec := ih (o.set i ((r * 4294967296 + rd x (i : Int)) / dv)) ((r * 4294967296 + rd x (i : Int)) % dv) (by omega) (W_set hw _ q0 q1) (by rw [List.length_set, ho]) ⟨r0, r1⟩
   (fun j hj => by rw [rd_set_ne _ _ _ _ (by omega)]; exact hz j (by omega)) key
  refine Ev_up ?_
  unfold nat_small.l0
  rw [w1, w0]
  refine Ev_pos (by omega) ?_
  refine Ev_pos (by omega) ?_
  refine Ev_pos (by omega) ?_
  refine Ev_some (div32_f hr rx hd.2) ?_
  rw [Int.toNat_natCast]
  refine Ev_pos (by omega) ?_
  exact hrec
theorem small_f {x : List Int} (hx : W x) {dv : Int} (hd : 0 < dv ∧ dv < 4294967296) (hl : x.length < 35184372087809) : Ev (fun k => nat_small.f k x dv) (L (V x / dv), L (V x % dv)) := by
 have w1 : wrap64 ((x.length : Int) - 1) = (x.length : Int) - 1 := by unfold wrap64; omega
 unfold nat_small.f
 refine Ev_pos (by omega) ?_
 refine Ev_pos (by omega) ?_
 rw [w1, Int.toNat_natCast]
 exact small_l hx hd hl x.length _ 0 (Nat.le_refl _) (W_replicate _) (by simp) ⟨by omega, hd.1⟩ (fun j _ => rd_replicate _ _) ⟨by simp [V_replicate]⟩
theorem V_drop (l : List Int) (i : Nat) : V (l.drop i) = rd l (i : Int) + 4294967296 * V (l.drop (i + 1)) := by
 by_cases h : i < l.length
 ·rw [List.drop_eq_getElem_cons h, V_cons]
  simp [rd, List.getD_eq_getElem?_getD, h]
 ·rw [rd_beyond l i (by simpa using h), List.drop_of_length_le (by omega), List.drop_of_length_le (by omega), V_nil]
  rfl
theorem or64_f {h x : Int} (hh : 0 ≤ h ∧ h < 4294967296) (hx : 0 ≤ x ∧ x < 4294967296) : Go.bits .or .u64 (h * 4294967296) x = h * 4294967296 + x :=
 bits_join .u64 64 (Nat.le_refl _) (fun n h0 h1 => wrap_u64_of h0 h1) 32 _ _ (by omega) (by omega) (by omega) hx.1 hx.2 (by omega)
theorem or64_w {h x : Int} (hh : 0 ≤ h ∧ h < 4294967296) (hx : 0 ≤ x ∧ x < 4294967296) : Go.bits .or .u64 (IntKind.u64.wrap (IntKind.u64.wrap h * 4294967296)) (IntKind.u64.wrap x) = h * 4294967296 + x := by
 rw [wrap_u64_of hh.1 (by omega), wrap_u64_of (x := h * 4294967296) (by omega) (by omega), wrap_u64_of hx.1 (by omega), or64_f hh hx]
theorem or64_z {x : Int} (hx : 0 ≤ x ∧ x < 4294967296) : Go.bits .or .u64 0 (IntKind.u64.wrap x) = 0 * 4294967296 + x := by
 rw [wrap_u64_of hx.1 (by omega)]
 exact or64_f (h := 0) (by omega) hx
theorem shr_limb {T U lo Y hi Z : Int} (hT : 0 < T) (hTU : T * U = 4294967296) (hlo : 0 ≤ lo ∧ lo < 4294967296) (hY : Y = hi + 4294967296 * Z) :
  (lo + 4294967296 * Y) / T = (hi * 4294967296 + lo) / T % 4294967296 + 4294967296 * (Y / T) := by
 have eY := Int.emod_add_mul_ediv Y T
 have eh := Int.emod_add_mul_ediv hi T
 have y0 := Int.emod_nonneg Y (show T ≠ 0 by omega)
 have y1 := Int.emod_lt_of_pos Y hT
 have em : hi % T = Y % T := by
  rw [hY, ← hTU, Int.mul_assoc, Int.add_mul_emod_self_left]
 have a1 : (lo + 4294967296 * Y) / T = (lo + 4294967296 * (Y % T)) / T + 4294967296 * (Y / T) := by
  rw [show lo + 4294967296 * Y = lo + 4294967296 * (Y % T) + T * (4294967296 * (Y / T)) by grind, Int.add_mul_ediv_left _ _ (by omega)]
 have a2 : (hi * 4294967296 + lo) / T = (lo + 4294967296 * (Y % T)) / T + 4294967296 * (hi / T) := by
  rw [show hi * 4294967296 + lo = lo + 4294967296 * (Y % T) + T * (4294967296 * (hi / T)) by grind, Int.add_mul_ediv_left _ _ (by omega)]
 have b0 : 0 ≤ (lo + 4294967296 * (Y % T)) / T := Int.ediv_nonneg (by omega) (by omega)
 have b1 : (lo + 4294967296 * (Y % T)) / T < 4294967296 := Int.ediv_lt_of_lt_mul hT (by omega)
 rw [a1, a2]
 generalize (lo + 4294967296 * (Y % T)) / T = d at *
 generalize hi / T = h2 at *
 omega
theorem shr_w {r : Nat} (hr : r < 32) (x : Int) : shr .u64 x (r : Int) = x / 2 ^ r := by
 unfold shr
 rw [Int.toNat_natCast, Nat.min_eq_left (show r ≤ IntKind.u64.bits by show r ≤ 64; omega)]
theorem nshr_l {l : List Int} (hl : W l) (hn : l.length < 35184372087809) {r : Nat} (hr : r < 32) : ∀ (d i : Nat) (o : List Int), l.length - i = d → i ≤ l.length → W o → o.length = l.length →
  Aside0 (V (o.take i) + P i * (V (l.drop i) / 2 ^ r) = V l / 2 ^ r) → Ev (fun k => nat_shr.l0 k l (r : Int) o l (l.length : Int) (i : Int)) (L (V l / 2 ^ r)) := by
 have hT : (0 : Int) < 2 ^ r := Int.pow_pos (by decide)
 have HTU : Aside0 ((2 : Int) ^ r * 2 ^ (32 - r) = 4294967296) := ⟨by rw [← Int.pow_add, show r + (32 - r) = 32 by omega]; rfl⟩
 have hT' := Aside0.mk hT
 clear hT
 intro d
 induction d with
 | zero =>
  intro i o hd hi hw ho HV
  obtain rfl : i = l.length := by omega
  refine Ev_up ?_
  unfold nat_shr.l0
  refine Ev_neg (by omega) ?_
  refine Ev_some (trim_f hw) ?_
  refine Ev_now ?_
  have hv := HV.out
  rw [List.drop_length, V_nil, V_take_all o _ (by omega), Int.zero_ediv, Int.mul_zero, Int.add_zero] at hv
  rw [hv]
 | succ d ih =>
  intro i o hd hi hw ho HV
  have w1 : wrap64 ((i : Int) + 1) = ((i + 1 : Nat) : Int) := by unfold wrap64; omega
  have rl := W_rd hl (i : Int)
  have rh := W_rd hl ((i + 1 : Nat) : Int)
  have SL := Aside0.mk (shr_limb hT'.out HTU.out rl (V_drop l (i + 1)))
  have D0 := Aside0.mk (V_drop l i)
  have hq0 : 0 ≤ (rd l ((i + 1 : Nat) : Int) * 4294967296 + rd l (i : Int)) / 2 ^ r % 4294967296 := Int.emod_nonneg _ (by decide)
  have hq1 : (rd l ((i + 1 : Nat) : Int) * 4294967296 + rd l (i : Int)) / 2 ^ r % 4294967296 < 4294967296 := Int.emod_lt_of_pos _ (by decide)
  have hrec := ih (i + 1) (o.set i ((rd l ((i + 1 : Nat) : Int) * 4294967296 + rd l (i : Int)) / 2 ^ r % 4294967296)) (by omega) (by omega) (W_set hw _ hq0 hq1) (by rw [List.length_set, ho]) ⟨by
   have hv := HV.out
   rw [D0.out, SL.out] at hv
   rw [V_take_succ' _ i, rd_set_eq _ _ _ (by omega), P_succ, show (o.set i ((rd l ((i + 1 : Nat) : Int) * 4294967296 + rd l (i : Int)) / 2 ^ r % 4294967296)).take i = o.take i by rw [List.take_set_of_le (Nat.le_refl _)]]
   clear ih
   grind⟩
  refine Ev_up ?_
  unfold nat_shr.l0
  rw [w1, Int.toNat_natCast]
  refine Ev_pos (by omega) ?_
  refine Ev_pos (by omega) ?_
  refine Ev_pos (by omega) ?_
  by_cases hh : ((i + 1 : Nat) : Int) < (l.length : Int)
  ·refine Ev_pos hh ?_
   refine Ev_pos (by omega) ?_
   refine Ev_pos (by omega) ?_
   refine Ev_pos (by omega) ?_
   rw [or64_w rh rl, shr_w hr]
   exact hrec
  ·rw [rd_beyond l ((i + 1 : Nat) : Int) (by omega)] at hrec
   refine Ev_neg hh ?_
   refine Ev_pos (by omega) ?_
   refine Ev_pos (by omega) ?_
   rw [or64_z rl, shr_w hr]
   exact hrec
theorem nshr_f {l : List Int} (hl : W l) (hn : l.length < 35184372087809) {r : Nat} (hr : r < 32) : Ev (fun k => nat_shr.f k l (r : Int)) (L (V l / 2 ^ r)) := by
 unfold nat_shr.f
 refine Ev_pos (by omega) ?_
 refine Ev_pos (by omega) ?_
 rw [Int.toNat_natCast]
 exact nshr_l hl hn hr _ 0 _ rfl (Nat.zero_le _) (W_replicate _) (by simp) ⟨by simp [V_nil, P_zero]⟩
end Go.Proofs.YtncdiodnbkhacaaDoor.N
end
section
namespace Go.Proofs.YtncdiodnbkhacaaDoor.N
set_option linter.unusedVariables false
set_option linter.unusedSimpArgs false
open Go Go.RowKit Go.Proofs.YtncdiodnbkhacaaDoorW.PrintWords Go.Proofs.YtncdiodnbkhacaaDoorW.PrintLast Go.Proofs.YtncdiodnbkhacaaDoorW.PrintMore Go.Proofs.YtncdiodnbkhacaaDoor.Pq
theorem b01 (x y c : Int) : bits_Sub32.b x y c = 0 ∨ bits_Sub32.b x y c = 1 := by
 unfold bits_Sub32.b
 split
 ·exact .inr rfl
 ·exact .inl rfl
theorem sub_limb {x y c : Int} (hx : 0 ≤ x ∧ x < 4294967296) (hy : 0 ≤ y ∧ y < 4294967296) (hc : 0 ≤ c ∧ c ≤ 1) :
  (x - y - c) % 4294967296 = x - y - c + 4294967296 * bits_Sub32.b x y c := by
 unfold bits_Sub32.b
 split <;> omega
theorem less_at {u v : List Int} (hu : W u) (hv : W v) (j : Nat) {g : Int} (hg : 0 ≤ g ∧ g < 4294967296) : ∀ (i : Nat), i ≤ v.length → j + v.length ≤ u.length →
  ∃ u' c b, nat_less.at u v j g i = some (u', c, b) ∧ W u' ∧ u'.length = u.length ∧ 0 ≤ c ∧ c < 4294967296 ∧ (b = 0 ∨ b = 1) ∧ (∀ m : Nat, j + i ≤ m → rd u' (m : Int) = rd u (m : Int)) ∧
   Aside0 (V u' = V u - P j * (g * V (v.take i)) + P (j + i) * (c + b)) := by
 intro i
 induction i with
 | zero =>
  intro _ _
  exact ⟨u, 0, 0, rfl, hu, rfl, by omega, by omega, .inl rfl, fun _ _ => rfl, ⟨by simp [V_nil]⟩⟩
 | succ i ih =>
  intro hi hl
  obtain ⟨u', c, b, e, hw, hlen, c0, c1, hb, hrd, HV⟩ := ih (by omega) hl
  have rv := W_rd hv (i : Int)
  have ru := W_rd hw ((j + i : Nat) : Int)
  have hm := limb_mul hg rv (o := 0) (c := 0) (by omega) (by omega)
  have t0 : 0 ≤ (g * rd v (i : Int) + c) % 4294967296 := by omega
  have t1 : (g * rd v (i : Int) + c) % 4294967296 < 4294967296 := by omega
  have hs := sub_limb ru ⟨t0, t1⟩ (show 0 ≤ b ∧ b ≤ 1 by omega)
  have s0 : 0 ≤ (rd u' ((j + i : Nat) : Int) - (g * rd v (i : Int) + c) % 4294967296 - b) % 4294967296 := by omega
  have s1 : (rd u' ((j + i : Nat) : Int) - (g * rd v (i : Int) + c) % 4294967296 - b) % 4294967296 < 4294967296 := by omega
  refine ⟨u'.set (j + i) ((rd u' ((j + i : Nat) : Int) - (g * rd v (i : Int) + c) % 4294967296 - b) % 4294967296), (g * rd v (i : Int) + c) / 4294967296, bits_Sub32.b (rd u' ((j + i : Nat) : Int)) ((g * rd v (i : Int) + c) % 4294967296) b, ?_, W_set hw _ s0 s1, by rw [List.length_set, hlen], by omega, by omega, b01 _ _ _, ?_, ⟨?_⟩⟩
  ·show (nat_less.at u v j g i).bind _ = _
   rw [e, Option.bind_some]
   dsimp only
   rw [if_pos ⟨⟨hg.1, by omega⟩, rv, c0, hm.1, by omega⟩, sub32_f ru ⟨t0, t1⟩ (by omega), Option.bind_some]
  ·intro m hm'
   rw [rd_set_ne _ _ _ _ (by omega)]
   exact hrd m (by omega)
  ·have hv' := HV.out
   have ed := Int.emod_add_mul_ediv (g * rd v (i : Int) + c) 4294967296
   rw [V_set _ _ _ (by omega), hv', V_take_succ' v i, show j + (i + 1) = j + i + 1 by omega, P_succ, P_add j i, hs]
   clear ih hs s0 s1 t0 t1 hm
   grind
theorem less_f {u v : List Int} (hu : W u) (hv : W v) (j : Nat) {g : Int} (hg : 0 ≤ g ∧ g < 4294967296) (hl : j + v.length < u.length) :
  ∃ u' b, nat_less.f u j v g = some (decide (b = 1), u') ∧ W u' ∧ u'.length = u.length ∧ (b = 0 ∨ b = 1) ∧ (∀ m : Nat, j + v.length < m → rd u' (m : Int) = rd u (m : Int)) ∧
   Aside0 (V u' = V u - P j * (g * V v) + P (j + v.length + 1) * b) := by
 obtain ⟨u1, c, b, e, hw, hlen, c0, c1, hb, hrd, HV⟩ := less_at hu hv j hg v.length (Nat.le_refl _) (by omega)
 have ru := W_rd hw ((j + v.length : Nat) : Int)
 have hs := sub_limb ru ⟨c0, c1⟩ (show 0 ≤ b ∧ b ≤ 1 by omega)
 have ec : c % 4294967296 = c := by omega
 refine ⟨u1.set (j + v.length) ((rd u1 ((j + v.length : Nat) : Int) - c - b) % 4294967296), bits_Sub32.b (rd u1 ((j + v.length : Nat) : Int)) c b, ?_, W_set hw _ (by omega) (by omega), by rw [List.length_set, hlen], b01 _ _ _, ?_, ⟨?_⟩⟩
 ·unfold nat_less.f
  rw [e, Option.bind_some]
  dsimp only
  rw [if_pos ⟨c0, by omega⟩, ec, sub32_f ru ⟨c0, c1⟩ (by omega), Option.bind_some]
  rcases b01 (rd u1 ((j + v.length : Nat) : Int)) c b with h | h <;> rw [h] <;> rfl
 ·intro m hm
  rw [rd_set_ne _ _ _ _ (by omega)]
  exact hrd m (by omega)
 ·have hv' := HV.out
  rw [List.take_length] at hv'
  rw [V_set _ _ _ (by omega), hv', P_succ, hs]
  grind
theorem back_at {u v : List Int} (hu : W u) (hv : W v) (j : Nat) : ∀ (i : Nat), i ≤ v.length → j + v.length ≤ u.length →
  ∃ u' c, nat_back.at u v j i = some (u', c) ∧ W u' ∧ u'.length = u.length ∧ 0 ≤ c ∧ c ≤ 1 ∧ (∀ m : Nat, j + i ≤ m → rd u' (m : Int) = rd u (m : Int)) ∧
   Aside0 (V u' + P (j + i) * c = V u + P j * V (v.take i)) := by
 intro i
 induction i with
 | zero =>
  intro _ _
  exact ⟨u, 0, rfl, hu, rfl, by omega, by omega, fun _ _ => rfl, ⟨by simp [V_nil]⟩⟩
 | succ i ih =>
  intro hi hl
  obtain ⟨u', c, e, hw, hlen, c0, c1, hrd, HV⟩ := ih (by omega) hl
  have rv := W_rd hv (i : Int)
  have ru := W_rd hw ((j + i : Nat) : Int)
  refine ⟨u'.set (j + i) ((rd u' ((j + i : Nat) : Int) + rd v (i : Int) + c) % 4294967296), (rd u' ((j + i : Nat) : Int) + rd v (i : Int) + c) / 4294967296, ?_, W_set hw _ (by omega) (by omega), by rw [List.length_set, hlen], by omega, by omega, ?_, ⟨?_⟩⟩
  ·show (nat_back.at u v j i).bind _ = _
   rw [e, Option.bind_some]
   dsimp only
   rw [add32_f ru rv ⟨c0, c1⟩, Option.bind_some]
  ·intro m hm'
   rw [rd_set_ne _ _ _ _ (by omega)]
   exact hrd m (by omega)
  ·have hv' := HV.out
   have ed := Int.emod_add_mul_ediv (rd u' ((j + i : Nat) : Int) + rd v (i : Int) + c) 4294967296
   rw [V_set _ _ _ (by omega), V_take_succ' v i, show j + (i + 1) = j + i + 1 by omega, P_succ]
   rw [P_add j i] at *
   clear ih
   grind
theorem back_f {u v : List Int} (hu : W u) (hv : W v) (j : Nat) (hl : j + v.length < u.length) :
  ∃ u' b, nat_back.f u j v = some u' ∧ W u' ∧ u'.length = u.length ∧ (b = 0 ∨ b = 1) ∧ (∀ m : Nat, j + v.length < m → rd u' (m : Int) = rd u (m : Int)) ∧
   Aside0 (V u' = V u + P j * V v - P (j + v.length + 1) * b) := by
 obtain ⟨u1, c, e, hw, hlen, c0, c1, hrd, HV⟩ := back_at hu hv j v.length (Nat.le_refl _) (by omega)
 have ru := W_rd hw ((j + v.length : Nat) : Int)
 refine ⟨u1.set (j + v.length) ((rd u1 ((j + v.length : Nat) : Int) + c) % 4294967296), (rd u1 ((j + v.length : Nat) : Int) + c) / 4294967296, ?_, W_set hw _ (by omega) (by omega), by rw [List.length_set, hlen], by omega, ?_, ⟨?_⟩⟩
 ·unfold nat_back.f
  rw [e, Option.bind_some]
 ·intro m hm
  rw [rd_set_ne _ _ _ _ (by omega)]
  exact hrd m (by omega)
 ·have hv' := HV.out
  have ed := Int.emod_add_mul_ediv (rd u1 ((j + v.length : Nat) : Int) + c) 4294967296
  rw [List.take_length] at hv'
  rw [V_set _ _ _ (by omega), P_succ]
  grind
end Go.Proofs.YtncdiodnbkhacaaDoor.N
end
section
namespace Go.Proofs.YtncdiodnbkhacaaDoor.N
set_option linter.unusedVariables false
set_option linter.unusedSimpArgs false
open Go Go.RowKit Go.Proofs.YtncdiodnbkhacaaDoorW.PrintWords Go.Proofs.YtncdiodnbkhacaaDoorW.PrintLast Go.Proofs.YtncdiodnbkhacaaDoorW.PrintMore Go.Proofs.YtncdiodnbkhacaaDoor.Pq
structure Two (X D top u2 v1 v2 Q xl dl : Int) : Prop where
 q : 0 < Q
 x : X = (top * 4294967296 + u2) * Q + xl
 d : D = (v1 * 4294967296 + v2) * Q + dl
 xl : 0 ≤ xl ∧ xl < Q
 dl : 0 ≤ dl ∧ dl < Q
 u2 : 0 ≤ u2 ∧ u2 < 4294967296
 v2 : 0 ≤ v2 ∧ v2 < 4294967296
 v1 : 0 < v1 ∧ v1 < 4294967296
 top : 0 ≤ top ∧ top < 18446744073709551616
 lt : X < 4294967296 * D
theorem Two.x0 {X D top u2 v1 v2 Q xl dl : Int} (h : Two X D top u2 v1 v2 Q xl dl) : 0 ≤ X := by
 have h1 : 0 ≤ (top * 4294967296 + u2) * Q := Int.mul_nonneg (by have := h.top; have := h.u2; omega) (by have := h.q; omega)
 have := h.x
 have := h.xl
 omega
theorem Two.d0 {X D top u2 v1 v2 Q xl dl : Int} (h : Two X D top u2 v1 v2 Q xl dl) : 4294967296 * Q ≤ D := by
 have h1 : 4294967296 * Q ≤ (v1 * 4294967296 + v2) * Q := Int.mul_le_mul_of_nonneg_right (by have := h.v1; have := h.v2; omega) (by have := h.q; omega)
 have := h.d
 have := h.dl
 omega
theorem Two.more {X D top u2 v1 v2 Q xl dl : Int} (h : Two X D top u2 v1 v2 Q xl dl) {g r : Int} (g0 : 0 ≤ g) (e : g * v1 + r = top) (hc : r * 4294967296 + u2 < g * v2) : X < g * D := by
 have h1 : (top * 4294967296 + u2 + 1) * Q ≤ (g * (v1 * 4294967296 + v2)) * Q := Int.mul_le_mul_of_nonneg_right (by
  have : g * (v1 * 4294967296 + v2) = (g * v1) * 4294967296 + g * v2 := by grind
  rw [this]
  omega) (by have := h.q; omega)
 have h2 : 0 ≤ g * dl := Int.mul_nonneg g0 h.dl.1
 have h3 : g * D = (g * (v1 * 4294967296 + v2)) * Q + g * dl := by rw [h.d]; grind
 have h4 : (top * 4294967296 + u2 + 1) * Q = (top * 4294967296 + u2) * Q + Q := by grind
 have := h.x
 have := h.xl
 omega
theorem Two.less {X D top u2 v1 v2 Q xl dl : Int} (h : Two X D top u2 v1 v2 Q xl dl) {g r : Int} (g0 : 0 ≤ g) (g1 : g < 4294967296) (e : g * v1 + r = top) (hc : g * v2 ≤ r * 4294967296 + u2) : (g - 1) * D ≤ X := by
 have h1 : (g * (v1 * 4294967296 + v2)) * Q ≤ (top * 4294967296 + u2) * Q := Int.mul_le_mul_of_nonneg_right (by
  have : g * (v1 * 4294967296 + v2) = (g * v1) * 4294967296 + g * v2 := by grind
  rw [this]
  omega) (by have := h.q; omega)
 have h2 : g * dl ≤ 4294967296 * dl := Int.mul_le_mul_of_nonneg_right (by omega) h.dl.1
 have h3 : g * D = (g * (v1 * 4294967296 + v2)) * Q + g * dl := by rw [h.d]; grind
 have h4 : (g - 1) * D = g * D - D := by grind
 have := h.x
 have := h.xl
 have := h.dl
 have := h.d0
 omega
theorem Two.first {X D top u2 v1 v2 Q xl dl : Int} (h : Two X D top u2 v1 v2 Q xl dl) : X < (top / v1 + 1) * D := by
 have e := Int.emod_add_mul_ediv top v1
 have e1 := Int.emod_lt_of_pos top h.v1.1
 have h1 : (top + 1) ≤ (top / v1 + 1) * v1 := by grind
 have q := h.q
 have g0 : 0 ≤ top / v1 := Int.ediv_nonneg h.top.1 (by have := h.v1; omega)
 have h2 : (top + 1) * (4294967296 * Q) ≤ (top / v1 + 1) * v1 * (4294967296 * Q) := Int.mul_le_mul_of_nonneg_right h1 (by omega)
 have h3 : v1 * (4294967296 * Q) ≤ D := by
  rw [h.d]
  have : 0 ≤ v2 * Q := Int.mul_nonneg h.v2.1 (by omega)
  have := h.dl
  grind
 have h4 : (top / v1 + 1) * (v1 * (4294967296 * Q)) ≤ (top / v1 + 1) * D := Int.mul_le_mul_of_nonneg_left h3 (by omega)
 have h5 : X < (top + 1) * (4294967296 * Q) := by
  rw [h.x]
  have h6 : u2 * Q ≤ 4294967295 * Q := Int.mul_le_mul_of_nonneg_right (by have := h.u2; omega) (by omega)
  have := h.xl
  grind
 rw [← Int.mul_assoc] at h4
 omega
theorem Two.small {X D top u2 v1 v2 Q xl dl : Int} (h : Two X D top u2 v1 v2 Q xl dl) {g r : Int} (e : g * v1 + r = top) (hr : 4294967296 ≤ r) : g < 4294967296 := by
 have q := h.q
 have h1 : top * 4294967296 * Q ≤ X := by
  rw [h.x]
  have : 0 ≤ u2 * Q := Int.mul_nonneg h.u2.1 (by omega)
  have := h.xl
  grind
 have h2 : D < (v1 * 4294967296 + v2 + 1) * Q := by
  rw [h.d]
  have := h.dl
  grind
 have h3 : top < v1 * 4294967296 + 4294967296 := by
  rcases Int.lt_or_le top (v1 * 4294967296 + 4294967296) with k | k
  ·exact k
  ·exfalso
   have h4 : (v1 * 4294967296 + v2 + 1) * Q ≤ top * Q := Int.mul_le_mul_of_nonneg_right (by have := h.v2; omega) (by omega)
   have := h.lt
   have : top * 4294967296 * Q = 4294967296 * (top * Q) := by grind
   omega
 have h5 : g * v1 < 4294967296 * v1 := by omega
 exact Int.lt_of_mul_lt_mul_right h5 (by have := h.v1; omega)
structure Gs (X D top v1 g r : Int) : Prop where
 lt : X < (g + 1) * D
 e : g * v1 + r = top
 r : 0 ≤ r ∧ r < 4294967296
 g : 0 ≤ g ∧ g < 18446744073709551616
theorem Two.pos {X D top u2 v1 v2 Q xl dl : Int} (h : Two X D top u2 v1 v2 Q xl dl) {g : Int} (k : X < g * D) : 0 < g := by
 rcases Int.lt_or_le 0 g with h1 | h1
 ·exact h1
 ·exfalso
  have h2 : g * D ≤ 0 * D := Int.mul_le_mul_of_nonneg_right h1 (by have := h.d0; have := h.q; omega)
  have := h.x0
  omega
end Go.Proofs.YtncdiodnbkhacaaDoor.N
end
section
namespace Go.Proofs.YtncdiodnbkhacaaDoor.N
set_option linter.unusedVariables false
set_option linter.unusedSimpArgs false
open Go Go.RowKit Go.Proofs.YtncdiodnbkhacaaDoorW.PrintWords Go.Proofs.YtncdiodnbkhacaaDoorW.PrintLast Go.Proofs.YtncdiodnbkhacaaDoorW.PrintMore Go.Proofs.YtncdiodnbkhacaaDoor.Pq
theorem guess_l {u v q : List Int} {sh : Int} (hu : W u) (hv : W v) {j n : Nat} (hn : v.length = n + 2) (hlen : j + n + 2 < u.length) (hul : u.length < 35184372088832) {X D top u2 v1 v2 Q xl dl : Int}
  (h : Two X D top u2 v1 v2 Q xl dl) (e1 : v1 = rd v ((n + 1 : Nat) : Int)) (e2 : v2 = rd v (n : Int)) (eu : u2 = rd u ((j + n : Nat) : Int)) (R : List Int × List Int)
  (next : ∀ g, 0 ≤ g → g < 4294967296 → (g - 1) * D ≤ X → X < (g + 1) * D → Ev (fun k => nat_long.j4 k sh v u ((n + 2 : Nat) : Int) q (j : Int) g) R) :
  ∀ (m : Nat) (g r : Int), g.toNat ≤ m → Gs X D top v1 g r → Ev (fun k => nat_long.l2 k sh v u ((n + 2 : Nat) : Int) q (j : Int) g r) R := by
 have b2 : (n : Int) < (v.length : Int) := by omega
 have b4 : ((j + n : Nat) : Int) < (u.length : Int) := by omega
 have w1 : wrap64 (((n + 2 : Nat) : Int) - 1) = ((n + 1 : Nat) : Int) := by unfold wrap64; omega
 have w2 : wrap64 (((n + 2 : Nat) : Int) - 2) = (n : Int) := by unfold wrap64; omega
 have w3 : wrap64 (wrap64 ((j : Int) + ((n + 2 : Nat) : Int)) - 2) = ((j + n : Nat) : Int) := by
  rw [show wrap64 ((j : Int) + ((n + 2 : Nat) : Int)) = ((j + n + 2 : Nat) : Int) by unfold wrap64; omega]
  unfold wrap64
  omega
 have dpos : 0 < D := by have := h.d0; have := h.q; omega
 have hv1 := h.v1
 have hv2 := h.v2
 have hu2 := h.u2
 have e0 : IntKind.u64.wrap (rd v ((n + 1 : Nat) : Int)) = v1 := by rw [← e1, wrap_u64_of (by omega) (by omega)]
 -- the way down by one
 have down : ∀ (m : Nat), (∀ (g r : Int), g.toNat ≤ m → Gs X D top v1 g r → Ev (fun k => nat_long.l2 k sh v u ((n + 2 : Nat) : Int) q (j : Int) g r) R) →
   ∀ (g r : Int), g.toNat ≤ m + 1 → Gs X D top v1 g r → X < g * D → Ev (fun k => nat_long.j3 k sh v u ((n + 2 : Nat) : Int) q (j : Int) g r true) R := by
  intro m ih g r hm hg hlt
  have gp := h.pos hlt
  have hr := hg.r
  have gb := hg.g
  have e' : (g - 1) * v1 + (r + v1) = top := by rw [Int.sub_mul, Int.one_mul]; have := hg.e; omega
  have hlt' : X < (g - 1 + 1) * D := by rw [show g - 1 + 1 = g by omega]; exact hlt
  refine Ev_up ?_
  unfold nat_long.j3
  refine Ev_pos rfl ?_
  rw [w1, e0, wrap_u64_of (x := r + v1) (by omega) (by omega), wrap_u64_of (x := g - 1) (by omega) (by omega)]
  refine Ev_pos (by omega) ?_
  refine Ev_pos (by omega) ?_
  by_cases hb : r + v1 ≥ 4294967296
  ·refine Ev_pos hb ?_
   have gs := h.small e' hb
   have h3 : (g - 1) * v2 ≤ 4294967296 * v2 := Int.mul_le_mul_of_nonneg_right (by omega) hv2.1
   exact next (g - 1) (by omega) gs (h.less (by omega) gs e' (by omega)) hlt'
  ·refine Ev_neg hb ?_
   exact ih (g - 1) (r + v1) (by omega) ⟨hlt', e', by omega, by omega⟩
 intro m
 have go : ∀ (g r : Int), (X < g * D → Ev (fun k => nat_long.j3 k sh v u ((n + 2 : Nat) : Int) q (j : Int) g r true) R) → Gs X D top v1 g r → Ev (fun k => nat_long.l2 k sh v u ((n + 2 : Nat) : Int) q (j : Int) g r) R := by
  intro g r hdown hg
  have hr := hg.r
  have gb := hg.g
  refine Ev_up ?_
  unfold nat_long.l2
  by_cases hb : g ≥ 4294967296
  ·refine Ev_pos hb ?_
   refine hdown ?_
   have h1 : 4294967296 * D ≤ g * D := Int.mul_le_mul_of_nonneg_right hb (by omega)
   have := h.lt
   omega
  ·refine Ev_neg hb ?_
   refine Ev_pos (by omega) ?_
   have hm := limb_mul (x := g) (y := v2) (o := 0) (c := 0) ⟨gb.1, by omega⟩ hv2 (by omega) (by omega)
   have ew : IntKind.u64.wrap (g * IntKind.u64.wrap (rd v (n : Int))) = g * v2 := by
    rw [← e2, wrap_u64_of hv2.1 (by omega), wrap_u64_of hm.1 (by omega)]
   have eo : Go.bits .or .u64 (IntKind.u64.wrap (r * 4294967296)) (IntKind.u64.wrap (rd u ((j + n : Nat) : Int))) = r * 4294967296 + u2 := by
    rw [← eu, wrap_u64_of (x := r * 4294967296) (by omega) (by omega), wrap_u64_of hu2.1 (by omega), or64_f hr hu2]
   rw [w2, w3, ew, eo]
   refine Ev_pos (Int.natCast_nonneg _) ?_
   refine Ev_pos b2 ?_
   refine Ev_pos (Int.natCast_nonneg _) ?_
   refine Ev_pos b4 ?_
   by_cases hc : g * v2 > r * 4294967296 + u2
   ·rw [decide_eq_true hc]
    exact hdown (h.more gb.1 hg.e hc)
   ·rw [decide_eq_false hc]
    refine Ev_up ?_
    unfold nat_long.j3
    refine Ev_neg (by decide) ?_
    exact next g gb.1 (by omega) (h.less gb.1 (by omega) hg.e (by omega)) hg.lt
 induction m with
 | zero =>
  intro g r hm hg
  refine go g r (fun hlt => ?_) hg
  have := h.pos hlt
  omega
 | succ m ih =>
  intro g r hm hg
  exact go g r (fun hlt => down m ih g r hm hg hlt) hg
end Go.Proofs.YtncdiodnbkhacaaDoor.N
end
section
namespace Go.Proofs.YtncdiodnbkhacaaDoor.N
set_option linter.unusedVariables false
set_option linter.unusedSimpArgs false
open Go Go.RowKit Go.Proofs.YtncdiodnbkhacaaDoorW.PrintWords Go.Proofs.YtncdiodnbkhacaaDoorW.PrintLast Go.Proofs.YtncdiodnbkhacaaDoorW.PrintMore Go.Proofs.YtncdiodnbkhacaaDoor.Pq
theorem drop_eq {l m : List Int} {k : Nat} (hl : l.length = m.length) (h : ∀ i : Nat, k ≤ i → rd l (i : Int) = rd m (i : Int)) : l.drop k = m.drop k := by
 apply List.ext_getElem (by simp [hl])
 intro i h1 h2
 have h3 := h (k + i) (by omega)
 simp only [List.length_drop] at h1 h2
 have e1 : rd l ((k + i : Nat) : Int) = l[k + i] := by simp only [rd, Int.toNat_natCast, List.getD_eq_getElem?_getD, List.getElem?_eq_getElem (show k + i < l.length by omega), Option.getD_some]
 have e2 : rd m ((k + i : Nat) : Int) = m[k + i] := by simp only [rd, Int.toNat_natCast, List.getD_eq_getElem?_getD, List.getElem?_eq_getElem (show k + i < m.length by omega), Option.getD_some]
 rw [e1, e2] at h3
 rw [List.getElem_drop, List.getElem_drop]
 exact h3
structure Dg (v : List Int) (A : Int) (N : Nat) (u q : List Int) (j : Nat) : Prop where
 wu : W u
 wq : W q
 lu : u.length = N
 lq : q.length + v.length = N
 lt : V u < P j * V v
 e : V u + V v * V q = A
 z : ∀ m : Nat, m < j → rd q (m : Int) = 0
theorem Dg.top {v : List Int} {A : Int} {N : Nat} {u q : List Int} {j : Nat} (h : Dg v A N u q (j + 1)) (hv : W v) : V (u.drop (j + v.length + 1)) = 0 := by
 have h1 := V_split' u (j + v.length + 1)
 have h2 := V_nonneg (W_take h.wu (j + v.length + 1))
 have h3 := V_nonneg (W_drop h.wu (j + v.length + 1))
 have h4 : P (j + 1) * V v < P (j + 1) * P v.length := Int.mul_lt_mul_of_pos_left (V_lt hv) (P_pos _)
 rw [← P_add, show j + 1 + v.length = j + v.length + 1 by omega] at h4
 have h5 := h.lt
 rcases (show V (u.drop (j + v.length + 1)) = 0 ∨ 1 ≤ V (u.drop (j + v.length + 1)) by omega) with h6 | h6
 ·exact h6
 ·have h7 : P (j + v.length + 1) * 1 ≤ P (j + v.length + 1) * V (u.drop (j + v.length + 1)) := Int.mul_le_mul_of_nonneg_left h6 (by have := P_pos (j + v.length + 1); omega)
  omega
theorem Dg.x {v : List Int} {A : Int} {N : Nat} {u q : List Int} {j : Nat} (h : Dg v A N u q (j + 1)) : V (u.drop j) < 4294967296 * V v := by
 have h1 := V_split' u j
 have h2 := V_nonneg (W_take h.wu j)
 have h3 := h.lt
 have h4 : P (j + 1) * V v = P j * (4294967296 * V v) := by rw [P_succ]; grind
 have h5 : P j * V (u.drop j) < P j * (4294967296 * V v) := by omega
 exact Int.lt_of_mul_lt_mul_left h5 (by have := P_pos j; omega)
theorem Dg.next {v : List Int} {A : Int} {N : Nat} {u q u' : List Int} {j : Nat} (h : Dg v A N u q (j + 1)) (hw : W u') (hl : u'.length = N) {t : Int} (ht : 0 ≤ t ∧ t < 4294967296)
  (hV : V u' = V u - P j * (t * V v)) (h1 : V (u.drop j) < (t + 1) * V v) (hj : j < q.length) : Dg v A N u' (q.set j t) j where
 wu := hw
 wq := W_set h.wq _ ht.1 ht.2
 lu := hl
 lq := by rw [List.length_set]; exact h.lq
 lt := by
  have h2 := V_split' u j
  have h3 := V_take_lt h.wu j
  have h4 : P j * (V (u.drop j) + 1) ≤ P j * ((t + 1) * V v) := Int.mul_le_mul_of_nonneg_left (by omega) (by have := P_pos j; omega)
  have h5 : P j * ((t + 1) * V v) = P j * (t * V v) + P j * V v := by grind
  rw [Int.mul_add] at h4
  omega
 e := by
  have h2 := h.e
  rw [V_set _ _ _ hj, h.z j (by omega), hV]
  grind
 z := fun m hm => by rw [rd_set_ne _ _ _ _ (by omega)]; exact h.z m (by omega)
theorem V_lt_of_drop {l : List Int} (h : W l) {k : Nat} (hz : V (l.drop k) = 0) : V l < P k := by
 have h1 := V_split' l k
 have h2 := V_take_lt h k
 rw [hz, Int.mul_zero] at h1
 omega
theorem digit_b2 {U V1 V2 G D M T X b2 : Int} (hv1 : V1 = U - G + M * 1) (hv2 : V2 = V1 + D - M * b2) (hb2 : b2 = 0 ∨ b2 = 1) (k1 : G - D ≤ X) (hx : U = T + X) (T0 : 0 ≤ T) (hlt : V2 < M) : b2 = 1 := by
 rcases hb2 with rfl | rfl
 ·exfalso
  omega
 ·rfl
theorem digit_lt {U V1 G M T X : Int} (hv1 : V1 = U - G + M * 1) (hx : U = T + X) (T0 : 0 ≤ T) (hlt : V1 < M) : X < G := by omega
theorem digit_new {U V1 V2 G D M : Int} (hv1 : V1 = U - G + M * 1) (hv2 : V2 = V1 + D - M * 1) : V2 = U - (G - D) := by omega
theorem digit_steps {v : List Int} (hv : W v) {A : Int} {N : Nat} {u q : List Int} {j : Nat} (h : Dg v A N u q (j + 1)) {g : Int} (hg : 0 ≤ g ∧ g < 4294967296)
  (h0 : (g - 1) * V v ≤ V (u.drop j)) (h1 : V (u.drop j) < (g + 1) * V v) (hj : j < q.length) :
  ∃ u1, W u1 ∧ u1.length = N ∧ ((nat_less.f u j v g = some (false, u1) ∧ Dg v A N u1 (q.set j g) j) ∨
   (nat_less.f u j v g = some (true, u1) ∧ 0 < g ∧ ∃ u2, nat_back.f u1 j v = some u2 ∧ Dg v A N u2 (q.set j (g - 1)) j)) := by
 have hlu := h.lu
 have hlq := h.lq
 have hjN : j + v.length < u.length := by clear h0 h1; omega
 have htop := h.top hv
 have X0 := Aside0.mk (V_split' u j)
 have XT := Aside0.mk (V_nonneg (W_take h.wu j))
 have hPj := Aside0.mk (P_pos j)
 have H0 := Aside0.mk h0
 have H1 := Aside0.mk h1
 clear h0 h1
 obtain ⟨u1, b, e1, hw1, hl1, hb, hrd1, HV1⟩ := less_f h.wu hv j hg hjN
 have hd1 : V (u1.drop (j + v.length + 1)) = 0 := by rw [drop_eq hl1 (fun i hi => hrd1 i (by omega)), htop]
 have hlt1 := Aside0.mk (V_lt_of_drop hw1 hd1)
 refine ⟨u1, hw1, by omega, ?_⟩
 rcases hb with hb | hb
 ·subst hb
  refine .inl ⟨e1, h.next hw1 (by omega) hg ?_ H1.out hj⟩
  have hv1 := HV1.out
  rw [Int.mul_zero, Int.add_zero] at hv1
  exact hv1
 ·subst hb
  obtain ⟨u2, b2, e2, hw2, hl2, hb2, hrd2, HV2⟩ := back_f hw1 hv j (by omega)
  have hd2 : V (u2.drop (j + v.length + 1)) = 0 := by rw [drop_eq hl2 (fun i hi => hrd2 i (by omega)), hd1]
  have hlt2 := Aside0.mk (V_lt_of_drop hw2 hd2)
  have k2 : Aside0 (P j * ((g - 1) * V v) = P j * (g * V v) - P j * V v) := ⟨by rw [Int.sub_mul, Int.one_mul, Int.mul_sub]⟩
  have k1 : Aside0 (P j * (g * V v) - P j * V v ≤ P j * V (u.drop j)) := ⟨by
   rw [← k2.out]
   exact Int.mul_le_mul_of_nonneg_left H0.out (Int.le_of_lt hPj.out)⟩
  obtain rfl := digit_b2 HV1.out HV2.out hb2 k1.out X0.out XT.out hlt2.out
  have k4 : Aside0 (V (u.drop j) < g * V v) := ⟨Int.lt_of_mul_lt_mul_left (digit_lt HV1.out X0.out XT.out hlt1.out) (Int.le_of_lt hPj.out)⟩
  have gp : 0 < g := by
   rcases Int.lt_or_le 0 g with h2 | h2
   ·exact h2
   ·exfalso
    obtain rfl : g = 0 := by omega
    have h3 := k4.out
    rw [Int.zero_mul] at h3
    have := V_nonneg (W_drop h.wu j)
    omega
  refine .inr ⟨e1, gp, u2, e2, h.next hw2 (by omega) (by omega) ?_ ?_ hj⟩
  ·rw [k2.out]
   exact digit_new HV1.out HV2.out
  ·rw [Int.sub_add_cancel]
   exact k4.out
theorem digit {v : List Int} (hv : W v) {A : Int} {N : Nat} (hN : N < 35184372088832) {sh : Int} {u q : List Int} {j : Nat} (h : Dg v A N u q (j + 1)) {g : Int} (hg : 0 ≤ g ∧ g < 4294967296)
  (h0 : Aside0 ((g - 1) * V v ≤ V (u.drop j))) (h1 : Aside0 (V (u.drop j) < (g + 1) * V v)) (hj : j < q.length) (R : List Int × List Int)
  (next : ∀ u' q', Dg v A N u' q' j → Ev (fun k => nat_long.l1 k sh v u' (v.length : Int) q' ((j : Int) - 1)) R) :
  Ev (fun k => nat_long.j4 k sh v u (v.length : Int) q (j : Int) g) R := by
 have hlu := h.lu
 have hlq := h.lq
 have w1 : wrap64 (wrap64 ((j : Int) + (v.length : Int)) + 1) = ((j + v.length + 1 : Nat) : Int) := by
  rw [show wrap64 ((j : Int) + (v.length : Int)) = ((j + v.length : Nat) : Int) by unfold wrap64; omega]
  unfold wrap64
  omega
 have w2 : wrap64 ((j : Int) - 1) = (j : Int) - 1 := by unfold wrap64; omega
 have c2 : (j : Int) < ((j + v.length + 1 : Nat) : Int) := by omega
 have c3 : ((j + v.length + 1 : Nat) : Int) ≤ (u.length : Int) := by omega
 have c4 : (j : Int) + (v.length : Int) < ((j + v.length + 1 : Nat) : Int) := by omega
 have c5 : (j : Int) < (q.length : Int) := by omega
 obtain ⟨u1, hw1, hl1, hs⟩ := digit_steps hv h hg h0.out h1.out hj
 refine Ev_up ?_
 unfold nat_long.j4
 rw [w1, w2, Int.toNat_natCast]
 refine Ev_pos (Int.natCast_nonneg _) ?_
 refine Ev_pos c2 ?_
 refine Ev_pos c3 ?_
 refine Ev_pos c4 ?_
 rcases hs with ⟨e1, hd⟩ | ⟨e1, gp, u2, e2, hd⟩
 ·refine Ev_some e1 ?_
  refine Ev_neg (by simp) ?_
  refine Ev_pos c5 ?_
  rw [show g % 4294967296 = g by omega]
  exact next _ _ hd
 ·refine Ev_some e1 ?_
  refine Ev_pos rfl ?_
  refine Ev_some e2 ?_
  refine Ev_pos c5 ?_
  rw [wrap_u64_of (x := g - 1) (by omega) (by omega), show (g - 1) % 4294967296 = g - 1 by omega]
  exact next _ _ hd
theorem Dg.two {v : List Int} (hv : W v) {A : Int} {N n : Nat} {u q : List Int} {j : Nat} (h : Dg v A N u q (j + 1)) (hn : v.length = n + 2) (hp : 0 < rd v ((n + 1 : Nat) : Int)) :
  Two (V (u.drop j)) (V v) (rd u ((j + n + 2 : Nat) : Int) * 4294967296 + rd u ((j + n + 1 : Nat) : Int)) (rd u ((j + n : Nat) : Int)) (rd v ((n + 1 : Nat) : Int)) (rd v (n : Int)) (P n) (V ((u.drop j).take n)) (V (v.take n)) where
 q := P_pos n
 x := by
  have h1 := V_split' (u.drop j) n
  rw [List.drop_drop, V_drop u (j + n), V_drop u (j + n + 1), V_drop u (j + n + 1 + 1)] at h1
  have h2 := h.top hv
  rw [hn] at h2
  rw [show j + n + 1 + 1 + 1 = j + (n + 2) + 1 by omega, h2, show j + n + 1 + 1 = j + n + 2 by omega] at h1
  rw [h1]
  grind
 d := by
  have h1 := V_split' v n
  rw [V_drop v n, V_drop v (n + 1), List.drop_of_length_le (by omega), V_nil] at h1
  rw [h1]
  grind
 xl := ⟨V_nonneg (W_take (W_drop h.wu j) n), V_take_lt (W_drop h.wu j) n⟩
 dl := ⟨V_nonneg (W_take hv n), V_take_lt hv n⟩
 u2 := W_rd h.wu _
 v2 := W_rd hv _
 v1 := ⟨hp, (W_rd hv _).2⟩
 top := by
  have h1 := W_rd h.wu ((j + n + 2 : Nat) : Int)
  have h2 := W_rd h.wu ((j + n + 1 : Nat) : Int)
  omega
 lt := h.x
theorem Two.start {X D top u2 v1 v2 Q xl dl : Int} (h : Two X D top u2 v1 v2 Q xl dl) : Gs X D top v1 (top / v1) (top % v1) where
 lt := h.first
 e := by
  have := Int.emod_add_mul_ediv top v1
  rw [Int.mul_comm]
  omega
 r := by
  have h1 := h.v1
  have h2 := Int.emod_nonneg top (show v1 ≠ 0 by omega)
  have h3 := Int.emod_lt_of_pos top h1.1
  omega
 g := by
  have h1 := h.top
  have h2 := Int.ediv_nonneg h1.1 (Int.le_of_lt h.v1.1)
  have h3 := Int.ediv_le_self v1 h1.1
  omega
theorem v_pos {v : List Int} (hv : W v) {n : Nat} (hn : v.length = n + 2) (hp : 0 < rd v ((n + 1 : Nat) : Int)) : 0 < V v := by
 have h1 := V_split' v (n + 1)
 have h2 := V_nonneg (W_take hv (n + 1))
 rw [V_drop v (n + 1), List.drop_of_length_le (by omega), V_nil, Int.mul_zero, Int.add_zero] at h1
 have h4 : 0 < P (n + 1) * rd v ((n + 1 : Nat) : Int) := Int.mul_pos (P_pos (n + 1)) hp
 omega
theorem Dg.done {v : List Int} (hv : W v) (hvp : 0 < V v) {A : Int} {N : Nat} {u q : List Int} (h : Dg v A N u q 0) : V q = A / V v ∧ V (u.take v.length) = A % V v := by
 have hlt := h.lt
 have hge := V_nonneg h.wu
 rw [P_zero, Int.one_mul] at hlt
 have e := h.e
 have h2 : V (u.take v.length) = V u := by
  have h3 := V_split' u v.length
  have h4 := V_nonneg (W_drop h.wu v.length)
  have h5 := V_lt hv
  have h6 := V_nonneg (W_take h.wu v.length)
  rcases (show V (u.drop v.length) = 0 ∨ 1 ≤ V (u.drop v.length) by omega) with h7 | h7
  ·rw [h7, Int.mul_zero] at h3
   omega
  ·have h8 : P v.length * 1 ≤ P v.length * V (u.drop v.length) := Int.mul_le_mul_of_nonneg_left h7 (by have := P_pos v.length; omega)
   omega
 have d1 : A / V v = V q := by rw [← e, Int.add_mul_ediv_left _ _ (by omega), Int.ediv_eq_zero_of_lt hge hlt]; omega
 have d2 : A % V v = V u := by rw [← e, Int.add_mul_emod_self_left, Int.emod_eq_of_lt hge hlt]
 exact ⟨d1.symm, by rw [h2, d2]⟩
theorem long_l1 {v : List Int} (hv : W v) {n : Nat} (hn : v.length = n + 2) (hp : 0 < rd v ((n + 1 : Nat) : Int)) {A : Int} {N : Nat} (hN : N < 35184372087809) {r : Nat} (hr : r < 32) : ∀ (j : Nat) (u q : List Int), j ≤ q.length → Dg v A N u q j →
  Ev (fun k => nat_long.l1 k (r : Int) v u (v.length : Int) q ((j : Int) - 1)) (L (A / V v), L (A % V v / 2 ^ r)) := by
 have hvp := Aside0.mk (v_pos hv hn hp)
 intro j
 induction j with
 | zero =>
  intro u q hj h
  have hlu := h.lu
  have hlq := h.lq
  have hd := h.done hv hvp.out
  have c1 : ((v.length : Nat) : Int) ≤ (u.length : Int) := by omega
  have c2 : (u.take v.length).length < 35184372087809 := by rw [List.length_take]; omega
  refine Ev_up ?_
  unfold nat_long.l1
  refine Ev_neg (by omega) ?_
  refine Ev_some (trim_f h.wq) ?_
  refine Ev_pos (Int.natCast_nonneg _) ?_
  refine Ev_pos c1 ?_
  rw [Int.toNat_natCast]
  refine Ev.bind (nshr_f (W_take h.wu _) c2 hr) ?_
  refine Ev_now ?_
  rw [hd.1, hd.2]
 | succ j ih =>
  intro u q hj h
  have hlu := h.lu
  have hlq := h.lq
  have w0 : ((j + 1 : Nat) : Int) - 1 = (j : Int) := by omega
  have w1 : wrap64 ((j : Int) + (v.length : Int)) = ((j + n + 2 : Nat) : Int) := by unfold wrap64; omega
  have w2 : wrap64 (((j + n + 2 : Nat) : Int) - 1) = ((j + n + 1 : Nat) : Int) := by unfold wrap64; omega
  have w3 : wrap64 ((v.length : Int) - 1) = ((n + 1 : Nat) : Int) := by unfold wrap64; omega
  have c1 : ((j + n + 2 : Nat) : Int) < (u.length : Int) := by omega
  have c2 : ((j + n + 1 : Nat) : Int) < (u.length : Int) := by omega
  have c3 : ((n + 1 : Nat) : Int) < (v.length : Int) := by omega
  have c4 : j + n + 2 < u.length := by omega
  have c5 : u.length < 35184372088832 := by omega
  have c6 : N < 35184372088832 := by omega
  have c7 : j < q.length := by omega
  have c8 : ((v.length : Int)) = ((n + 2 : Nat) : Int) := by omega
  have h2 := h.two hv hn hp
  have hs := h2.start
  have r0 := W_rd h.wu ((j + n + 2 : Nat) : Int)
  have r1 := W_rd h.wu ((j + n + 1 : Nat) : Int)
  have rv := W_rd hv ((n + 1 : Nat) : Int)
  have htop := h2.top
  have eo : Go.bits .or .u64 (IntKind.u64.wrap (IntKind.u64.wrap (rd u ((j + n + 2 : Nat) : Int)) * 4294967296)) (IntKind.u64.wrap (rd u ((j + n + 1 : Nat) : Int))) = rd u ((j + n + 2 : Nat) : Int) * 4294967296 + rd u ((j + n + 1 : Nat) : Int) := by
   rw [wrap_u64_of (x := rd u ((j + n + 2 : Nat) : Int)) (by omega) (by omega), wrap_u64_of (x := rd u ((j + n + 2 : Nat) : Int) * 4294967296) (by omega) (by omega), wrap_u64_of (x := rd u ((j + n + 1 : Nat) : Int)) (by omega) (by omega), or64_f r0 r1]
  have ev : IntKind.u64.wrap (rd v ((n + 1 : Nat) : Int)) = rd v ((n + 1 : Nat) : Int) := wrap_u64_of (by omega) (by omega)
  have wg := wrap_u64_of hs.g.1 hs.g.2
  have np : ¬ rd v ((n + 1 : Nat) : Int) = 0 := by omega
  refine Ev_up ?_
  unfold nat_long.l1
  rw [w0, w1, w2, w3, eo, ev, Int.tdiv_eq_ediv_of_nonneg htop.1, Int.tmod_eq_emod_of_nonneg htop.1, wg]
  refine Ev_pos (Int.natCast_nonneg _) ?_
  refine Ev_pos (Int.natCast_nonneg _) ?_
  refine Ev_pos c1 ?_
  refine Ev_pos (Int.natCast_nonneg _) ?_
  refine Ev_pos c2 ?_
  refine Ev_pos (Int.natCast_nonneg _) ?_
  refine Ev_pos c3 ?_
  refine Ev_neg np ?_
  rw [c8]
  refine guess_l h.wu hv hn c4 c5 h2 rfl rfl rfl _ (fun g' ga gb gc gd => ?_) _ _ _ (Nat.le_refl _) hs
  rw [← c8]
  exact digit hv c6 h ⟨ga, gb⟩ ⟨gc⟩ ⟨gd⟩ c7 _ (fun u' q' hd => ih u' q' (by have := hd.lq; omega) hd)
end Go.Proofs.YtncdiodnbkhacaaDoor.N
end
section
namespace Go.Proofs.YtncdiodnbkhacaaDoor.N
set_option linter.unusedVariables false
set_option linter.unusedSimpArgs false
open Go Go.RowKit Go.Proofs.YtncdiodnbkhacaaDoorW.PrintWords Go.Proofs.YtncdiodnbkhacaaDoorW.PrintLast Go.Proofs.YtncdiodnbkhacaaDoorW.PrintMore Go.Proofs.YtncdiodnbkhacaaDoor.Pq
theorem shifted_length {y : Int} (hy : 0 < y) {i r : Nat} (hi : (L y).length = i + 1) (hr : (r : Int) = 32 - bl (rd (L y) (i : Int))) (hp : 0 < rd (L y) (i : Int)) : (L (y * 2 ^ r)).length = i + 1 := by
 have h1 := bl_V (W_L y) i hi hp
 rw [V_L (by omega)] at h1
 have h2 := bl_shift hy r
 have hpow : (0 : Int) < 2 ^ r := Int.pow_pos (by decide)
 have hpos : 0 < y * 2 ^ r := Int.mul_pos hy hpow
 have h3 := bl_log hpos
 have h4 : bl (y * 2 ^ r) = ((y * 2 ^ r).toNat.log2 : Int) + 1 := bl_of h3.1 h3.2
 have h5 : (y * 2 ^ r).toNat.log2 + 1 = 32 * (i + 1) := by omega
 rw [h5, ← P_pow] at h3
 have h6 : P i ≤ 2 ^ (y * 2 ^ r).toNat.log2 := by
  rw [P_pow]
  exact two_pow_mono (by omega)
 have h7 := L_length_le (i + 1) h3.2
 have h8 := L_length_lt (Int.le_trans h6 h3.1)
 omega
theorem L_le {x : Int} (h0 : 0 ≤ x) : x < P (L x).length := by
 have := V_lt (W_L x)
 rwa [V_L h0] at this
theorem P_le_of_length {y : Int} (hy : 0 ≤ y) {i : Nat} (hi : (L y).length = i + 1) : P i ≤ y := by
 rcases Int.lt_or_le y (P i) with h | h
 ·have := L_length_le i h
  omega
 ·exact h
theorem long_l0 {a v : List Int} {A : Int} {r : Nat} {R : List Int × List Int} (ha : a.length < 35184372087800) {n : Nat} (hn : n ≤ a.length)
  (next : ∀ u, W u → u.length = a.length + 1 → Aside0 (V u = A) → Ev (fun k => nat_long.l1 k (r : Int) v u (n : Int) (List.replicate (a.length + 1 - n) 0) (((a.length + 1 - n : Nat) : Int) - 1)) R) :
  ∀ (d : Nat) (u : List Int), a.length + 1 - u.length = d → u.length ≤ a.length + 1 → W u → Aside0 (V u = A) → Ev (fun k => nat_long.l0 k a (r : Int) v u (n : Int)) R := by
 intro d
 induction d with
 | zero =>
  intro u hd hl hw hv
  have hul : u.length = a.length + 1 := by omega
  have w1 : wrap64 ((u.length : Int) - (n : Int)) = ((a.length + 1 - n : Nat) : Int) := by unfold wrap64; omega
  have w2 : wrap64 (((a.length + 1 - n : Nat) : Int) - 1) = ((a.length + 1 - n : Nat) : Int) - 1 := by unfold wrap64; omega
  refine Ev_up ?_
  unfold nat_long.l0
  rw [w1, w2, Int.toNat_natCast]
  refine Ev_neg (by omega) ?_
  refine Ev_pos (Int.natCast_nonneg _) ?_
  refine Ev_pos (by omega) ?_
  exact next u hw hul hv
 | succ d ih =>
  intro u hd hl hw hv
  refine Ev_up ?_
  unfold nat_long.l0
  refine Ev_pos (by omega) ?_
  refine Ev_pos (by omega) ?_
  refine ih (u ++ [0]) (by simp; omega) (by simp; omega) (W_append hw (W_one (by decide) (by decide))) ⟨?_⟩
  rw [V_snoc, Int.mul_zero, Int.add_zero]
  exact hv.out
theorem dg_start {x y : Int} {v u : List Int} {i r la : Nat} (hx0 : 0 ≤ x) (hxl : x < P la) (hyl : P i ≤ y) (hvv : V v = y * 2 ^ r) (hvl : v.length = i + 1) (hila : i + 1 ≤ la)
  (hu : W u) (hul : u.length = la + 1) (huv : V u = x * 2 ^ r) : Dg v (x * 2 ^ r) (la + 1) u (List.replicate (la + 1 - (i + 1)) 0) (la + 1 - (i + 1)) where
 wu := hu
 wq := W_replicate _
 lu := hul
 lq := by rw [List.length_replicate]; omega
 lt := by
  have hpow : (0 : Int) < 2 ^ r := Int.pow_pos (by decide)
  have h1 : P (la + 1 - (i + 1)) * P i ≤ P (la + 1 - (i + 1)) * y := Int.mul_le_mul_of_nonneg_left hyl (Int.le_of_lt (P_pos _))
  rw [← P_add, show la + 1 - (i + 1) + i = la by omega] at h1
  have h2 : x * 2 ^ r < P (la + 1 - (i + 1)) * y * 2 ^ r := Int.mul_lt_mul_of_pos_right (Int.lt_of_lt_of_le hxl h1) hpow
  rw [huv, hvv, ← Int.mul_assoc]
  exact h2
 e := by rw [V_replicate, Int.mul_zero, Int.add_zero, huv]
 z := fun m _ => rd_replicate _ _
theorem lz_f {t : Int} (h0 : 0 < t) (h1 : t < 4294967296) : bits_LeadingZeros32.f t = some (32 - bl t) := by
 have h2 := bl_pos h0
 have h3 := bl_32 h1
 unfold bits_LeadingZeros32.f
 rw [len32_f (Int.le_of_lt h0) h1, Option.bind_some, show wrap64 (32 - bl t) = 32 - bl t by unfold wrap64; omega]
theorem div_shift {x y : Int} (hy : 0 < y) (r : Nat) : x * 2 ^ r / (y * 2 ^ r) = x / y ∧ x * 2 ^ r % (y * 2 ^ r) / 2 ^ r = x % y := by
 have hpow : (0 : Int) < 2 ^ r := Int.pow_pos (by decide)
 constructor
 ·exact Int.mul_ediv_mul_of_pos_left x y hpow
 ·rw [Int.mul_comm x, Int.mul_comm y, Int.mul_emod_mul_of_pos _ _ hpow, Int.mul_comm]
  exact Int.mul_ediv_cancel _ (by omega)
theorem long_f {x y : Int} (hy : 0 < y) (hyx : y ≤ x) (h2 : 2 ≤ (L y).length) (hl : (L x).length < 35184360000000) : Ev (fun k => nat_long.f k (L x) (L y)) (L (x / y), L (x % y)) := by
 obtain ⟨i, hi, hp⟩ := rd_last hy
 have rt := W_rd (W_L y) (i : Int)
 have hb1 := bl_pos hp
 have hb2 := bl_32 rt.2
 obtain ⟨r, hr⟩ : ∃ r : Nat, (r : Int) = 32 - bl (rd (L y) (i : Int)) := ⟨(32 - bl (rd (L y) (i : Int))).toNat, by omega⟩
 have hr32 : r < 32 := by omega
 have hr65 : (r : Int) ≤ 65536 := by omega
 have hx0 : 0 ≤ x := by omega
 have hy0 : 0 ≤ y := by omega
 have hxl := L_le hx0
 have hyl := P_le_of_length hy0 hi
 have hvl := shifted_length hy hi hr hp
 have hila : i + 1 ≤ (L x).length := by
  have := L_length_lt (Int.le_trans hyl hyx)
  omega
 have hpow : (0 : Int) < 2 ^ r := Int.pow_pos (by decide)
 have hys : 0 < y * 2 ^ r := Int.mul_pos hy hpow
 have hxs : 0 ≤ x * 2 ^ r := Int.mul_nonneg hx0 (by omega)
 have hvv : V (L (y * 2 ^ r)) = y * 2 ^ r := V_L (by omega)
 have huv : V (L (x * 2 ^ r)) = x * 2 ^ r := V_L hxs
 obtain ⟨n, rfl⟩ : ∃ n, i = n + 1 := ⟨i - 1, by omega⟩
 obtain ⟨i', hi', hp'⟩ := rd_last hys
 have hii : i' = n + 1 := by omega
 subst hii
 have hul : (L (x * 2 ^ r)).length ≤ (L x).length + 1 := by
  refine L_length_le _ ?_
  rw [P_succ, Int.mul_comm 4294967296]
  have h3 := two_pow_le hr32
  have h4 : x * 2 ^ r < P (L x).length * 2 ^ r := Int.mul_lt_mul_of_pos_right hxl hpow
  have h5 : P (L x).length * 2 ^ r ≤ P (L x).length * 4294967296 := Int.mul_le_mul_of_nonneg_left h3 (Int.le_of_lt (P_pos _))
  omega
 have w1 : wrap64 (((L y).length : Int) - 1) = ((n + 1 : Nat) : Int) := by unfold wrap64; omega
 have c1 : ((n + 1 : Nat) : Int) < ((L y).length : Int) := by omega
 have c2 : (L y).length < 35184370000000 := by omega
 have c3 : (L x).length < 35184370000000 := by omega
 have c4 : (L x).length < 35184372087800 := by omega
 have c5 : (L x).length + 1 < 35184372087809 := by omega
 have c6 : (L (y * 2 ^ r)).length ≤ (L x).length := by omega
 have s1 := nshl_f (W_L y) c2 (r : Int)
 have s2 := nshl_f (W_L x) c3 (r : Int)
 rw [V_L hy0, shS_ok (Int.natCast_nonneg _) hr65, Int.toNat_natCast] at s1
 rw [V_L hx0, shS_ok (Int.natCast_nonneg _) hr65, Int.toNat_natCast] at s2
 have hds := div_shift (x := x) hy r
 unfold nat_long.f
 rw [w1]
 refine Ev_pos (Int.natCast_nonneg _) ?_
 refine Ev_pos c1 ?_
 refine Ev_some (lz_f hp rt.2) ?_
 rw [← hr]
 refine Ev.bind s1 ?_
 refine Ev.bind s2 ?_
 refine long_l0 c4 c6 (A := x * 2 ^ r) (fun u hu hul' huv' => ?_) _ _ rfl hul (W_L _) ⟨huv⟩
 have hdg := dg_start hx0 hxl hyl hvv (by omega : (L (y * 2 ^ r)).length = n + 1 + 1) hila hu hul' huv'.out
 have e := long_l1 (W_L (y * 2 ^ r)) hi' hp' c5 hr32 _ u _ (by rw [List.length_replicate]; exact Nat.le_refl _) hdg
 rw [hvv, hds.1, hds.2] at e
 rw [hvl]
 rw [hvl] at e
 exact e
def dmS (x y : Int) : List Int × List Int × Bool := if y = 0 then ([], [], false) else (L (x / y), L (x % y), true)
theorem ndm_f {a b : List Int} (ha : W a) (hb : W b) (sa : a.length < 35184360000000) (sb : b.length < 35184360000000) : Ev (fun k => nat_DivMod.f k a b) (dmS (V a) (V b)) := by
 have va := V_nonneg ha
 have vb := V_nonneg hb
 have la := L_len_le ha
 have lb := L_len_le hb
 have hsa : Sm (L (V a)) := by unfold Sm; omega
 have hsb : Sm (L (V b)) := by unfold Sm; omega
 have sa' : (L (V a)).length < 35184372087809 := by omega
 have sa2 : (L (V a)).length < 35184360000000 := by omega
 refine Ev_some (trim_f ha) ?_
 refine Ev_some (trim_f hb) ?_
 generalize V a = x at *
 generalize V b = y at *
 unfold dmS
 by_cases hy : y = 0
 ·subst hy
  rw [if_pos rfl, L_zero]
  refine Ev_pos rfl ?_
  exact Ev.now _
 ·rw [if_neg hy]
  have hne : (L y).length ≠ 0 := fun e => hy ((L_nil_iff vb).1 (List.eq_nil_of_length_eq_zero e))
  have hyp : 0 < y := by omega
  have n1 : ¬ ((L y).length : Int) = 0 := by omega
  have hc := ncmp_f (W_L x) (W_L y) hsa hsb
  rw [V_L va, V_L vb] at hc
  refine Ev_neg n1 ?_
  refine Ev.bind hc ?_
  by_cases h : x < y
  ·refine Ev_pos (cm_neg.2 h) ?_
   have hn := norm_f (W_L x) hsa
   rw [V_L va] at hn
   refine Ev_some hn ?_
   rw [Int.ediv_eq_zero_of_lt va h, Int.emod_eq_of_lt va h, L_zero]
   exact Ev.now _
  ·refine Ev_neg (fun e => h (cm_neg.1 e)) ?_
   by_cases h1 : ((L y).length : Int) = 1
   ·refine Ev_pos h1 ?_
    refine Ev_pos (by omega) ?_
    obtain ⟨z, hz⟩ := List.length_eq_one_iff.1 (show (L y).length = 1 by omega)
    have hv := V_L vb
    rw [hz, V_one] at hv
    subst hv
    have hw := W_L z
    rw [hz] at hw
    have hzb := hw z (List.mem_singleton.2 rfl)
    have hs := small_f (W_L x) (dv := z) ⟨hyp, hzb.2⟩ sa'
    rw [V_L va] at hs
    rw [hz]
    refine Ev.bind hs ?_
    exact Ev.now _
   ·refine Ev_neg h1 ?_
    refine Ev.bind (long_f hyp (by omega) (by omega) sa2) ?_
    exact Ev.now _
end Go.Proofs.YtncdiodnbkhacaaDoor.N
end
section
namespace Go.Proofs.YtncdiodnbkhacaaDoor.N
set_option linter.unusedVariables false
set_option linter.unusedSimpArgs false
open Go Go.RowKit Go.Proofs.YtncdiodnbkhacaaDoorW.PrintWords Go.Proofs.YtncdiodnbkhacaaDoorW.PrintLast Go.Proofs.YtncdiodnbkhacaaDoorW.PrintMore Go.Proofs.YtncdiodnbkhacaaDoor.Pq
theorem Nm.zero : Nm (N.L 0) 0 0 := by rw [L_zero]; exact Nm.nil
theorem Nm.dm {a b : List Int} {m n : Nat} {x y : Int} (h : Nm a m x) (k : Nm b n y) (hm : m < 35184360000000) (hn : n < 35184360000000) : Ev (fun r => nat_DivMod.f r a b) (dmS x y) := by
 have h1 := h.le
 have h2 := k.le
 have e := ndm_f h.w k.w (by omega) (by omega)
 rwa [h.v, k.v] at e
end Go.Proofs.YtncdiodnbkhacaaDoor.N
end
section
namespace Go.Proofs.YtncdiodnbkhacaaDoor.N
set_option linter.unusedVariables false
set_option linter.unusedSimpArgs false
open Go Go.RowKit Go.Proofs.YtncdiodnbkhacaaDoorW.PrintWords Go.Proofs.YtncdiodnbkhacaaDoorW.PrintLast Go.Proofs.YtncdiodnbkhacaaDoorW.PrintMore Go.Proofs.YtncdiodnbkhacaaDoor.Pq
theorem dmS_pos {x y : Int} (h : 0 < y) : dmS x y = (L (x / y), L (x % y), true) := if_neg (by omega)
end Go.Proofs.YtncdiodnbkhacaaDoor.N
end
section
namespace Go.Proofs.YtncdiodnbkhacaaDoor.N
set_option linter.unusedVariables false
set_option linter.unusedSimpArgs false
open Go Go.RowKit Go.Proofs.YtncdiodnbkhacaaDoorW.PrintWords Go.Proofs.YtncdiodnbkhacaaDoorW.PrintLast Go.Proofs.YtncdiodnbkhacaaDoorW.PrintMore Go.Proofs.YtncdiodnbkhacaaDoor.Pq
def db (n : Nat) : UInt8 := UInt8.ofNat (48 + n % 10)
def dg (n : Nat) : List UInt8 := if h : n = 0 then [] else dg (n / 10) ++ [db n]
termination_by n
decreasing_by omega
theorem dg_zero : dg 0 = [] := by unfold dg; rfl
theorem dg_pos {n : Nat} (h : n ≠ 0) : dg n = dg (n / 10) ++ [db n] := by
 rw [dg]
 exact dif_neg h
theorem dg_ten {n : Nat} (h : n ≠ 0) : dg (10 * n) = dg n ++ [48] := by
 rw [dg_pos (by omega), show 10 * n / 10 = n by omega, show db (10 * n) = 48 by unfold db; rw [show 10 * n % 10 = 0 by omega]; rfl]
theorem db_toNat (n : Nat) : (db n).toNat = 48 + n % 10 := by
 unfold db
 rw [UInt8.toNat_ofNat']
 omega
theorem db_ne {n : Nat} (h : n % 10 ≠ 0) : db n ≠ 48 := by
 intro hc
 have := congrArg UInt8.toNat hc
 rw [db_toNat] at this
 have : (48 : UInt8).toNat = 48 := rfl
 omega
theorem dg_head : ∀ (m n : Nat), n < m → n ≠ 0 → ∃ c t, dg n = c :: t ∧ c ≠ 48
 | 0, _, h, _ => by omega
 | m + 1, n, h, h0 => by
  rw [dg_pos h0]
  by_cases hs : n / 10 = 0
  ·rw [hs, dg_zero]
   exact ⟨db n, [], rfl, db_ne (by omega)⟩
  ·obtain ⟨c, t, e, hc⟩ := dg_head m (n / 10) (by omega) hs
   exact ⟨c, t ++ [db n], by rw [e]; rfl, hc⟩
theorem dg_cons {n : Nat} (h : n ≠ 0) : ∃ c t, dg n = c :: t ∧ c ≠ 48 := dg_head (n + 1) n (by omega) h
theorem dg_length : ∀ (e n : Nat), n < 10 ^ e → (dg n).length ≤ e
 | 0, n, h => by
  rw [Nat.pow_zero] at h
  rw [show n = 0 by omega, dg_zero]
  exact Nat.le_refl 0
 | e + 1, n, h => by
  by_cases h0 : n = 0
  ·rw [h0, dg_zero]
   exact Nat.zero_le _
  ·rw [dg_pos h0, List.length_append]
   have := dg_length e (n / 10) (by rw [Nat.pow_succ] at h; omega)
   simp only [List.length_cons, List.length_nil]
   omega
def pad : Nat → Nat → List UInt8
 | 0, _ => []
 | k + 1, n => pad k (n / 10) ++ [db n]
theorem pad_dg : ∀ (k z n : Nat), ∃ z', List.replicate z 48 ++ dg (n / 10 ^ k) ++ pad k n = List.replicate z' 48 ++ dg n
 | 0, z, n => ⟨z, by simp [pad]⟩
 | k + 1, z, n => by
  obtain ⟨z', e⟩ := pad_dg k z (n / 10)
  rw [show n / 10 ^ (k + 1) = n / 10 / 10 ^ k by rw [Nat.div_div_eq_div_mul, Nat.pow_succ, Nat.mul_comm]]
  show ∃ z', _ ++ (pad k (n / 10) ++ [db n]) = _
  rw [← List.append_assoc, e]
  by_cases h : n = 0
  ·refine ⟨z' + 1, ?_⟩
   subst h
   rw [show 0 / 10 = 0 from rfl, dg_zero, show db 0 = 48 from rfl, List.append_nil, List.append_nil, List.replicate_succ']
  ·exact ⟨z', by rw [dg_pos h, List.append_assoc]⟩
theorem drop_zeros (z n : Nat) : (List.replicate z 48 ++ dg n).dropWhile (fun x => x == 48) = dg n := by
 induction z with
 | zero =>
  rw [List.replicate_zero, List.nil_append]
  by_cases h : n = 0
  ·rw [h, dg_zero, List.dropWhile_nil]
  ·obtain ⟨c, t, e, hc⟩ := dg_cons h
   rw [e, List.dropWhile_cons_of_neg (by simpa using hc)]
 | succ z ih => rw [List.replicate_succ, List.cons_append, List.dropWhile_cons_of_pos (by rfl), ih]
theorem natural_n (n : Nat) : (decimal_Natural.n (((n % 1000000000 : Nat)) : Int)).data.toList = pad 9 n := by
 unfold decimal_Natural.n strOfNums
 simp only [pad, List.range, List.range.loop, List.map_cons, List.map_nil, List.nil_append, List.cons_append]
 simp only [List.cons.injEq, and_true, db]
 refine ⟨?_, ?_, ?_, ?_, ?_, ?_, ?_, ?_, ?_⟩ <;> (congr 1; simp only [Nat.reduceSub, Int.reducePow]; omega)
theorem natural_at {y : Int} (h0 : 0 ≤ y) (h1 : y < 4294967296) : decimal_Natural.at (L y) = y := by
 unfold decimal_Natural.at
 by_cases h : y = 0
 ·subst h
  rw [L_zero]
  rfl
 ·rw [L_pos (by omega), if_pos (by simp)]
  show y % 4294967296 = y
  omega
theorem natural_l0 {N : Nat} (hN : N < 35184360000000) : ∀ (n : Nat) (x : Int) (ps : List ByteArray), 0 ≤ x → x < 1000000000 ^ n → x < P N → ps.length + n < 8796093021952 →
  ∃ qs, Ev (fun k => decimal_Natural.l0 k (L x) (L 1000000000) ps) qs ∧ qs.length ≤ ps.length + n ∧ ∃ z, decimal_Natural.b qs = List.replicate z 48 ++ dg x.toNat ++ decimal_Natural.b ps := by
 intro n
 induction n with
 | zero =>
  intro x ps h0 h1 h2 h3
  have hx : x = 0 := by rw [Int.pow_zero] at h1; omega
  subst hx
  refine ⟨ps, ?_, by omega, 0, ?_⟩
  ·refine Ev_up ?_
   simp only [decimal_Natural.l0]
   rw [L_zero]
   exact Ev_neg (by simp) (Ev.now _)
  ·rw [show (0 : Int).toNat = 0 from rfl, dg_zero]; rfl
 | succ n ih =>
  intro x ps h0 h1 h2 h3
  by_cases hx : x = 0
  ·subst hx
   refine ⟨ps, ?_, by omega, 0, ?_⟩
   ·refine Ev_up ?_
    simp only [decimal_Natural.l0]
    rw [L_zero]
    exact Ev_neg (by simp) (Ev.now _)
   ·rw [show (0 : Int).toNat = 0 from rfl, dg_zero]; rfl
  ·have hr0 : 0 ≤ x % 1000000000 := by omega
   have hr1 : x % 1000000000 < 4294967296 := by omega
   have hq : x / 1000000000 < 1000000000 ^ n := by
    rw [Int.pow_succ] at h1
    exact Int.ediv_lt_of_lt_mul (by decide) h1
   obtain ⟨qs, e1, e2, z, e3⟩ := ih (x / 1000000000) (ps ++ [decimal_Natural.n (x % 1000000000)]) (by omega) hq (by omega) (by simp; omega)
   have hpad : (decimal_Natural.n (x % 1000000000)).data.toList = pad 9 x.toNat := by
    rw [← natural_n, show ((x.toNat % 1000000000 : Nat) : Int) = x % 1000000000 by omega]
   obtain ⟨z', e4⟩ := pad_dg 9 z x.toNat
   refine ⟨qs, ?_, by simp at e2; omega, z', ?_⟩
   ·refine Ev_up ?_
    simp only [decimal_Natural.l0]
    have hl : 0 < (L x).length := L_length_lt (m := 0) (by rw [P_zero]; omega)
    refine Ev_pos (by omega) ?_
    refine Ev.bind ((Nm.L h0 h2).dm (Nm.L (n := 1) (x := 1000000000) (by decide) (by decide +kernel)) hN (by decide)) ?_
    rw [dmS_pos (by decide)]
    show Ev (fun k => if 0 ≤ decimal_Natural.at (L (x % 1000000000)) ∧ decimal_Natural.at (L (x % 1000000000)) < 4294967296 ∧ ps.length < 8796093022208 then decimal_Natural.l0 k (L (x / 1000000000)) (L 1000000000) (ps ++ [decimal_Natural.n (decimal_Natural.at (L (x % 1000000000)))]) else none) qs
    rw [natural_at hr0 hr1]
    exact Ev_pos ⟨hr0, hr1, by omega⟩ e1
   ·rw [e3, ← e4]
    unfold decimal_Natural.b
    rw [List.reverse_append, List.reverse_singleton, List.singleton_append, List.map_cons, List.flatten_cons, hpad, show (x / 1000000000).toNat = x.toNat / 10 ^ 9 by omega]
    simp only [List.append_assoc]
def natS (x : Int) : ByteArray := if x = 0 then ⟨#[48]⟩ else ⟨(dg x.toNat).toArray⟩
theorem P_ten (N : Nat) : P N ≤ (1000000000 : Int) ^ (2 * N) := by
 induction N with
 | zero => rw [P_zero, Nat.mul_zero, Int.pow_zero]; exact Int.le_refl _
 | succ N ih =>
  rw [P_succ, show 2 * (N + 1) = 2 * N + 1 + 1 by omega, Int.pow_succ, Int.pow_succ]
  have := P_pos N
  omega
theorem Nm.natural {a : List Int} {n : Nat} {x : Int} (h : Nm a n x) (hn : n < 4398046510000) : Ev (fun k => decimal_Natural.f k a) (natS x) := by
 have h0 := h.pos
 obtain ⟨qs, e1, e2, z, e3⟩ := natural_l0 (N := n) (by omega) (2 * n) x [] h0 (Int.lt_of_lt_of_le h.lt (P_ten n)) h.lt (by simp; omega)
 unfold decimal_Natural.f
 refine Ev_some (h.nrm (by omega)) ?_
 refine Ev_some (nof_f (by decide) (by decide)) ?_
 refine Ev.bind e1 ?_
 rw [show decimal_Natural.b [] = [] from rfl, List.append_nil] at e3
 refine Ev_pos (by simp at e2; omega) ?_
 rw [e3, drop_zeros]
 refine Ev_now ?_
 unfold natS
 by_cases hx : x = 0
 ·subst hx
  rw [show (0 : Int).toNat = 0 from rfl, dg_zero]
  rfl
 ·obtain ⟨c, t, e, hc⟩ := dg_cons (n := x.toNat) (by omega)
  rw [if_neg hx, e]
  rfl
end Go.Proofs.YtncdiodnbkhacaaDoor.N
end
section
namespace Go.Proofs.YtncdiodnbkhacaaDoor.N
open Go Go.RowKit Go.Proofs.YtncdiodnbkhacaaDoorW.PrintWords Go.Proofs.YtncdiodnbkhacaaDoorW.PrintLast Go.Proofs.YtncdiodnbkhacaaDoor.Pq
theorem natS_zero : natS 0 = ⟨#[48]⟩ := rfl
theorem natS_pos {x : Int} (h : x ≠ 0) : natS x = ⟨(dg x.toNat).toArray⟩ := if_neg h
theorem natS_list {x : Int} (h : x ≠ 0) : (natS x).toList = dg x.toNat := by rw [natS_pos h, ByteArray.toList_mk]
theorem natS_size {x : Int} (h : x ≠ 0) : (natS x).size = (dg x.toNat).length := by
 rw [natS_pos h]
 show (dg x.toNat).toArray.size = _
 simp
theorem dg_short {n : Nat} {x : Int} (h0 : 0 ≤ x) (h : x < P n) : (dg x.toNat).length ≤ 18 * n := by
 have h1 := Int.lt_of_lt_of_le h (P_ten n)
 have h2 : (1000000000 : Int) ^ (2 * n) = ((10 ^ (18 * n) : Nat) : Int) := by
  rw [show 18 * n = 9 * (2 * n) by omega, Nat.pow_mul]
  simp
 exact dg_length _ _ (by rw [h2] at h1; omega)
end Go.Proofs.YtncdiodnbkhacaaDoor.N
namespace Go.Proofs.YtncdiodnbkhacaaDoor.Pure
open Go Go.RowKit Go.Proofs.YtncdiodnbkhacaaDoor.Pq Go.Proofs.YtncdiodnbkhacaaDoorW.PrintWords Go.Proofs.YtncdiodnbkhacaaDoorW.PrintLast Go.Proofs.YtncdiodnbkhacaaDoor.N
set_option maxHeartbeats 2000000 in
theorem DecimalTens : penumbralaw04_DecimalTens.Pure := by
 intro a _ _ wa
 apply Ev.rounds
 unfold penumbralaw04_DecimalTens.f
 refine Ev.bind fixed4 ?_
 refine Ev_pos rfl ?_
 refine Ev_up ?_
 simp only [penumbralaw04_DecimalTens.j0]
 by_cases hl : (a.length : Int) > 100
 ·refine Ev_pos (by simpa using hl) ?_
  refine Ev.bind fixed4 ?_
  exact Ev.now _
 ·refine Ev_neg (by simpa using hl) ?_
  have na := Nm.of wa (n := 100) (by omega)
  generalize V a = x at na
  have nt : Nm [10] 1 10 := ⟨W_one (by decide) (by decide), V_one 10, Nat.le_refl _⟩
  have h0 := na.pos
  have hlt := na.lt
  refine Ev.bind (na.natural (by omega)) ?_
  refine Ev.bind (na.mul nt (by omega) (by omega)) ?_
  refine Ev.bind ((na.mulL nt).natural (by omega)) ?_
  by_cases hx : x = 0
  ·subst hx
   rw [show (0 : Int) * 10 = 0 from rfl, natS_zero]
   refine Ev_pos (by decide +kernel) ?_
   refine Ev_pos (by decide +kernel) ?_
   refine Ev_some (na.nrm (by omega)) ?_
   rw [L_zero]
   exact Ev.now _
  ·have hx10 : x * 10 ≠ 0 := by omega
   obtain ⟨c, t, e, hc⟩ := dg_cons (n := x.toNat) (by omega)
   have hsz := natS_size hx
   have hsh := dg_short h0 hlt
   refine Ev_neg (by rw [natS_list hx, e]; intro hh; exact hc (List.cons.inj hh).1) ?_
   refine Ev_neg (by rw [natS_list hx, e]; simp) ?_
   refine Ev_pos (by rw [hsz, e]; simp) ?_
   refine Ev_neg ?_ ?_
   ·unfold bt
    rw [dif_pos (by rw [hsz, e]; simp)]
    intro hh
    have h1 : (natS x)[(0 : Int).toNat]'(by rw [hsz, e]; simp) = c := by
     simp only [natS_pos hx, e]
     rfl
    rw [h1] at hh
    exact hc (UInt8.toNat_inj.mp (by have : (48 : UInt8).toNat = 48 := rfl; omega))
   ·refine Ev_pos (by omega) ?_
    refine Ev_now ?_
    rw [natS_list hx10, ByteArray.toList_eq, ByteArray.data_append, Array.toList_append, ← ByteArray.toList_eq, natS_list hx, show (x * 10).toNat = 10 * x.toNat by omega, dg_ten (by omega)]
    simp
end Go.Proofs.YtncdiodnbkhacaaDoor.Pure
end
section
namespace Go.Proofs.YtncdiodnbkhacaaDoorW.PrintWords
open Go.ChangeShapes Go.WideShapes
theorem sized_ints {H : Type} {enc : TypeId × Value → H} {P : Program} {W : World} {base : Nat} {spare : Nat → Bool} {held : Bool} {t e : TypeId} {k : IntKind} {a : Option Addr} {len cap : Nat} {d : DataW H} {ps : List MemPlace} {ts : List TypeId} {ds : List (DataW H)} {j : Nat}
  (hsz : (DataW.weightsEach P ts ds).all (· ≤ reachBytes) = true) (ht : ts[j]? = some t) (hd : ds[j]? = some d) (hu : P.underlying t = some (.slice e)) (he : P.underlying e = some (.int k)) (hc : P.cellsOf e = 1) {B : Nat} (hB : P.bytesOf e = B)
  (h : DataW.Trod enc P W base spare held t (.slice a len cap) d ps) : len * B ≤ 140737488351232 := by
 obtain ⟨fuel, hf⟩ := h
 rcases open_ints hu he hc hf with ⟨hcs, _⟩ | ⟨x, l, c, zs, hcs, _, hl, _, hz, hx, _, _⟩
 ·simp [Value.cells] at hcs
  obtain ⟨rfl, rfl, rfl⟩ := hcs
  simp
 ·simp [Value.cells] at hcs
  obtain ⟨rfl, rfl, rfl⟩ := hcs
  obtain ⟨hx, _⟩ := Prod.mk.inj hx
  subst hx
  have z := sized_slice hsz ht hd hu
  rw [hB] at z
  have hl2 : len ≤ zs.length := by
   rw [hz]
   split
   ·exact hl
   ·exact Nat.le_refl _
  have h1 : (lits (H := H) k (zs.take len)).length + (lits (H := H) k (zs.drop len)).length = zs.length := by
   simp [lits]
   omega
  rw [h1] at z
  exact Nat.le_trans (Nat.mul_le_mul_right _ hl2) z
end Go.Proofs.YtncdiodnbkhacaaDoorW.PrintWords
end
section
namespace Go.Proofs.YtncdiodnbkhacaaDoor.decimalTens
open Go.ChangeShapes Go.WideShapes Go.ChangeAt Go.RowKit
open Go.ChangeMaps (open_string shut_string)
set_option linter.unusedVariables false
theorem own : ownKnob Tryd.prog.godebug = none := by kernel_rfl
theorem laidOut : laidOutB Tryd.prog = true := by kernel_rfl
def IsRow (k : IntKind) (w : World) (a : Option Addr) (len cap : Nat) (zs : List Int) : Prop :=
 (a = none ∧ len = 0 ∧ cap = 0 ∧ zs = []) ∨
 ∃ x, a = some x ∧ len ≤ cap ∧ cap ≤ maxLen ∧ zs.length = cap ∧ (∀ i, i < zs.length → w.cell? (x.add i) = some (.int k (zs.getD i 0))) ∧ ∀ n ∈ zs, (Lit.int k n).wf = true
theorem reads (os : Os) {H : Type} (enc : TypeId × Value → H) : ∃ places, DataW.whole enc Tryd.prog ((Lb.world os).forCall (fun _ _ => 0) ⟨#[], #[.slice none 0 0], []⟩).memory Tryd.f5.params.toList Rows.decimalTensSpec.vars false (#[.slice none 0 0] : Array Value).toList 8 = some ([.nil], [], places) :=
 ⟨[], by kernel_rfl⟩
set_option maxRecDepth 100000 in
theorem lifted (os : Os) (started : os.Started) (H : Type) (enc : TypeId × Value → H) (F : Stop.Interp) :
  ReturnsInHanded {} Tryd.checked os 5 .any ((OpenSpec.ofChange Rows.decimalTensSpec).preRow enc Tryd.prog Tryd.f5 Rows.decimalTensRow.domain false Rows.decimalTensRow.laid) (((OpenSpec.ofChange Rows.decimalTensSpec).at F).post enc Tryd.prog Tryd.f5 false true false false) := by
 obtain ⟨x, hx⟩ := reads os enc
 refine returnsInHanded_of_row (C := Tryd.checked) (s := (OpenSpec.ofChange Rows.decimalTensSpec)) own started (by kernel_rfl) Tryd.func5
  (witness_row_at (enc := enc) (C := Tryd.checked) false (Lb.world os) #[.slice none 0 0] rfl (Lb.vars os _) (Lb.rest os _) (by kernel_rfl)
   (OpenSpec.preRow_of_cond 8 hx (by kernel_rfl) (fun k hk => by cases hk) (by kernel_rfl) (Lb.met os _))) ?_
 intro W base args ds gs before hval0 hW hcnd _ hsz0 _ _ _
 have hsz : (DataW.weightsEach Tryd.prog (Tryd.f5.params.toList ++ Rows.decimalTensSpec.plain.varTypes Tryd.prog) (ds ++ gs)).all (· ≤ reachBytes) = true := hsz0
 have hval : ∀ (j : Nat) t v, Tryd.f5.params[j]? = some t → args[j]? = some v → Value.okWide Tryd.prog W .any base t v := hval0
 have hW' := hW
 obtain ⟨p, q, hA0, hV, rfl, hfz, hnd⟩ := hW
 have hA : DataW.TrodAll enc Tryd.prog W 0 (fun _ => true) true Tryd.f5.params.toList args.toList ds p := hA0
 rw [Tryd.params5] at hA hval hsz
 obtain ⟨v0, vs0, d0, ds0, p0, q0, hargs, rfl, rfl, h0, r0⟩ := trodAll_cons hA
 obtain ⟨rfl, rfl, rfl⟩ := trodAll_nil r0
 obtain rfl : args = #[v0] := by cases args; simp_all
 obtain ⟨rfl, rfl⟩ := trodVars_none hV
 obtain ⟨a0, len0, cap0, rfl⟩ := okWide_slice Tryd.underlying23 (hval 0 23 v0 rfl rfl)
 have k0 := h0
 have lt0 : ∀ x ∈ p0, x.block < W.heap.size := by obtain ⟨m, hm⟩ := k0; exact DataW.trod_lt m _ _ _ hm
 obtain ⟨z0, w0⟩ : ∃ zs, IsRow .u32 W a0 len0 cap0 zs := by
  obtain ⟨fuel, hf⟩ := h0
  rcases open_ints Tryd.underlying23 Tryd.underlying35 (by kernel_rfl) hf with ⟨hcs, _⟩ | ⟨x, l, c, zs, hcs, _, hl, hm, hz, _, hcell, hwz⟩
  ·simp [Value.cells] at hcs
   obtain ⟨rfl, rfl, rfl⟩ := hcs
   exact ⟨[], .inl ⟨rfl, rfl, rfl, rfl⟩⟩
  ·simp [Value.cells] at hcs
   obtain ⟨rfl, rfl, rfl⟩ := hcs
   exact ⟨zs, .inr ⟨_, rfl, hl, hm, by simpa using hz, hcell, hwz⟩⟩
 have y0 : len0 * 4 ≤ 140737488351232 := Go.Proofs.YtncdiodnbkhacaaDoorW.PrintWords.sized_ints hsz (j := 0) (t := 23) rfl rfl Tryd.underlying23 Tryd.underlying35 (by kernel_rfl) (by kernel_rfl) h0
 clear hA0 hval0 hsz0 hsz
 refine (Pq.penumbralaw04_DecimalTens.walk Pure.DecimalTens a0 len0 cap0 z0 W w0 y0).mono fun e W' ⟨he, bel⟩ => ?_
 subst he
 exact ⟨_, rfl, _, _, _, [], _, [], hW', trodAll_mk1 (shut_bool Tryd.underlying4 _), (trodAll_cons_mk (Below.trod laidOut (by kernel_rfl) (of_decide_eq_true (by kernel_rfl)) k0 bel lt0) trodAll_mk0), rfl, bel.frame _, fun h => by cases h⟩
theorem over : Rows.decimalTensRow.holds Tryd.pinned (OpenSpec.ofChange Rows.decimalTensSpec) :=
 OpenClaim.holds_of_cond 5 Tryd.f5 rfl rfl rfl rfl rfl rfl rfl ⟨rfl, rfl, rfl, rfl, rfl⟩ rfl rfl rfl rfl rfl (by kernel_rfl) Tryd.func5 (by kernel_rfl)
  (of_decide_eq_true (by kernel_rfl)) (by unfold Func.isWrapper; first | (rw [if_pos (by decide +kernel)]; kernel_rfl) | (rw [if_neg (by decide +kernel)]; exact ⟨rfl, rfl⟩))
  (fun os started H enc _ F => by rw [OpenClaim.pre_eq_preRow]; exact lifted os started H enc F)
theorem proved : Rows.DecimalTensSaid := over
theorem plain (f : FuncId) (fn : Func) (hf : Tryd.pinned.checked.prog.funcNamed "penumbra/penumbralaw04.DecimalTens" = some f) (hfn : Tryd.pinned.checked.prog.funcs[f]? = some fn) :
  false = Tryd.pinned.checked.prog.looks [] ∧ ∀ (j : Nat) t, fn.params[j]? = some t → Tryd.pinned.checked.prog.wantsStandIn t = false := by
 obtain rfl : f = 5 := Option.some.inj ((show Tryd.prog.funcNamed "penumbra/penumbralaw04.DecimalTens" = some 5 by kernel_rfl).symm.trans hf) |>.symm
 obtain rfl : fn = Tryd.f5 := (Option.some.inj (Tryd.func5.symm.trans hfn)).symm
 refine ⟨by kernel_rfl, fun j t ht => ?_⟩
 rw [Tryd.params5] at ht
 have hm := Array.mem_of_getElem? ht
 simp only [List.mem_toArray, List.mem_cons, List.not_mem_nil, or_false] at hm
 rcases hm with rfl
 ·exact (show Tryd.prog.wantsStandIn 23 = false by kernel_rfl)
theorem card : Rows.DecimalTensCardSaid :=
 Claim7.holds_tied_plain_at .later [] _ _ _ _ proved (fun _ h => by cases h) (by kernel_rfl) (fun _ h => by cases h) decimalTens_row_tie rfl ⟨rfl, rfl⟩ (by kernel_rfl) rfl plain (by kernel_rfl)
#print axioms card
end Go.Proofs.YtncdiodnbkhacaaDoor.decimalTens
namespace Go.Proofs.YtncdiodnbkhacaaDoor
theorem decimalTens_holds : Rows.DecimalTensCardSaid := decimalTens.card
end Go.Proofs.YtncdiodnbkhacaaDoor
end
