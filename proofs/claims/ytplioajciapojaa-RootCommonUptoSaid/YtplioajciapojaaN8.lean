/- What taking a multiple away and adding back come to: by values. -/
import Derived.Test.YtplioajciapojaaPqd
import Derived.Test.YtplioajciapojaaN7
namespace Go.Proofs.Ytplioajciapojaa.N
set_option linter.unusedVariables false
set_option linter.unusedSimpArgs false
open Go Go.RowKit Go.Proofs.YtplioajciapojaaW.PrintWords Go.Proofs.YtplioajciapojaaW.PrintLast Go.Proofs.YtplioajciapojaaW.PrintMore Go.Proofs.Ytplioajciapojaa.Pq

theorem b01 (x y c : Int) : bits_Sub32.b x y c = 0 ∨ bits_Sub32.b x y c = 1 := by
  unfold bits_Sub32.b
  split
  · exact .inr rfl
  · exact .inl rfl
theorem sub_limb {x y c : Int} (hx : 0 ≤ x ∧ x < 4294967296) (hy : 0 ≤ y ∧ y < 4294967296) (hc : 0 ≤ c ∧ c ≤ 1) :
    (x - y - c) % 4294967296 = x - y - c + 4294967296 * bits_Sub32.b x y c := by
  unfold bits_Sub32.b
  split <;> omega
/-- less, after i limbs: the list, the carry, the borrow -/
theorem less_at {u v : List Int} (hu : W u) (hv : W v) (j : Nat) {g : Int} (hg : 0 ≤ g ∧ g < 4294967296) : ∀ (i : Nat), i ≤ v.length → j + v.length ≤ u.length →
    ∃ u' c b, nat_less.at u v j g i = some (u', c, b) ∧ W u' ∧ u'.length = u.length ∧ 0 ≤ c ∧ c < 4294967296 ∧ (b = 0 ∨ b = 1) ∧ (∀ m : Nat, j + i ≤ m → rd u' (m : Int) = rd u (m : Int)) ∧
      Aside0 (V u' = V u - P j * (g * V (v.take i)) + P (j + i) * (c + b)) := by
  intro i
  induction i with
  | zero =>
    intro _ _
    exact ⟨u, 0, 0, rfl, hu, rfl, by omega, by omega, .inl rfl, fun _ _ => rfl, ⟨by simp [V_nil]⟩⟩
  | succ i ih =>
    intro hi hl
    obtain ⟨u', c, b, e, hw, hlen, c0, c1, hb, hrd, HV⟩ := ih (by omega) hl
    have rv := W_rd hv (i : Int)
    have ru := W_rd hw ((j + i : Nat) : Int)
    have hm := limb_mul hg rv (o := 0) (c := 0) (by omega) (by omega)
    have t0 : 0 ≤ (g * rd v (i : Int) + c) % 4294967296 := by omega
    have t1 : (g * rd v (i : Int) + c) % 4294967296 < 4294967296 := by omega
    have hs := sub_limb ru ⟨t0, t1⟩ (show 0 ≤ b ∧ b ≤ 1 by omega)
    have s0 : 0 ≤ (rd u' ((j + i : Nat) : Int) - (g * rd v (i : Int) + c) % 4294967296 - b) % 4294967296 := by omega
    have s1 : (rd u' ((j + i : Nat) : Int) - (g * rd v (i : Int) + c) % 4294967296 - b) % 4294967296 < 4294967296 := by omega
    refine ⟨u'.set (j + i) ((rd u' ((j + i : Nat) : Int) - (g * rd v (i : Int) + c) % 4294967296 - b) % 4294967296), (g * rd v (i : Int) + c) / 4294967296, bits_Sub32.b (rd u' ((j + i : Nat) : Int)) ((g * rd v (i : Int) + c) % 4294967296) b, ?_, W_set hw _ s0 s1, by rw [List.length_set, hlen], by omega, by omega, b01 _ _ _, ?_, ⟨?_⟩⟩
    · show (nat_less.at u v j g i).bind _ = _
      rw [e, Option.bind_some]
      dsimp only
      rw [if_pos ⟨⟨hg.1, by omega⟩, rv, c0, hm.1, by omega⟩, sub32_f ru ⟨t0, t1⟩ (by omega), Option.bind_some]
    · intro m hm'
      rw [rd_set_ne _ _ _ _ (by omega)]
      exact hrd m (by omega)
    · have hv' := HV.out
      have ed := Int.emod_add_mul_ediv (g * rd v (i : Int) + c) 4294967296
      rw [V_set _ _ _ (by omega), hv', V_take_succ' v i, show j + (i + 1) = j + i + 1 by omega, P_succ, P_add j i, hs]
      clear ih hs s0 s1 t0 t1 hm
      grind
/-- less: the whole list's value -/
theorem less_f {u v : List Int} (hu : W u) (hv : W v) (j : Nat) {g : Int} (hg : 0 ≤ g ∧ g < 4294967296) (hl : j + v.length < u.length) :
    ∃ u' b, nat_less.f u j v g = some (decide (b = 1), u') ∧ W u' ∧ u'.length = u.length ∧ (b = 0 ∨ b = 1) ∧ (∀ m : Nat, j + v.length < m → rd u' (m : Int) = rd u (m : Int)) ∧
      Aside0 (V u' = V u - P j * (g * V v) + P (j + v.length + 1) * b) := by
  obtain ⟨u1, c, b, e, hw, hlen, c0, c1, hb, hrd, HV⟩ := less_at hu hv j hg v.length (Nat.le_refl _) (by omega)
  have ru := W_rd hw ((j + v.length : Nat) : Int)
  have hs := sub_limb ru ⟨c0, c1⟩ (show 0 ≤ b ∧ b ≤ 1 by omega)
  have ec : c % 4294967296 = c := by omega
  refine ⟨u1.set (j + v.length) ((rd u1 ((j + v.length : Nat) : Int) - c - b) % 4294967296), bits_Sub32.b (rd u1 ((j + v.length : Nat) : Int)) c b, ?_, W_set hw _ (by omega) (by omega), by rw [List.length_set, hlen], b01 _ _ _, ?_, ⟨?_⟩⟩
  · unfold nat_less.f
    rw [e, Option.bind_some]
    dsimp only
    rw [if_pos ⟨c0, by omega⟩, ec, sub32_f ru ⟨c0, c1⟩ (by omega), Option.bind_some]
    rcases b01 (rd u1 ((j + v.length : Nat) : Int)) c b with h | h <;> rw [h] <;> rfl
  · intro m hm
    rw [rd_set_ne _ _ _ _ (by omega)]
    exact hrd m (by omega)
  · have hv' := HV.out
    rw [List.take_length] at hv'
    rw [V_set _ _ _ (by omega), hv', P_succ, hs]
    grind
/-- back, after i limbs -/
theorem back_at {u v : List Int} (hu : W u) (hv : W v) (j : Nat) : ∀ (i : Nat), i ≤ v.length → j + v.length ≤ u.length →
    ∃ u' c, nat_back.at u v j i = some (u', c) ∧ W u' ∧ u'.length = u.length ∧ 0 ≤ c ∧ c ≤ 1 ∧ (∀ m : Nat, j + i ≤ m → rd u' (m : Int) = rd u (m : Int)) ∧
      Aside0 (V u' + P (j + i) * c = V u + P j * V (v.take i)) := by
  intro i
  induction i with
  | zero =>
    intro _ _
    exact ⟨u, 0, rfl, hu, rfl, by omega, by omega, fun _ _ => rfl, ⟨by simp [V_nil]⟩⟩
  | succ i ih =>
    intro hi hl
    obtain ⟨u', c, e, hw, hlen, c0, c1, hrd, HV⟩ := ih (by omega) hl
    have rv := W_rd hv (i : Int)
    have ru := W_rd hw ((j + i : Nat) : Int)
    refine ⟨u'.set (j + i) ((rd u' ((j + i : Nat) : Int) + rd v (i : Int) + c) % 4294967296), (rd u' ((j + i : Nat) : Int) + rd v (i : Int) + c) / 4294967296, ?_, W_set hw _ (by omega) (by omega), by rw [List.length_set, hlen], by omega, by omega, ?_, ⟨?_⟩⟩
    · show (nat_back.at u v j i).bind _ = _
      rw [e, Option.bind_some]
      dsimp only
      rw [add32_f ru rv ⟨c0, c1⟩, Option.bind_some]
    · intro m hm'
      rw [rd_set_ne _ _ _ _ (by omega)]
      exact hrd m (by omega)
    · have hv' := HV.out
      have ed := Int.emod_add_mul_ediv (rd u' ((j + i : Nat) : Int) + rd v (i : Int) + c) 4294967296
      rw [V_set _ _ _ (by omega), V_take_succ' v i, show j + (i + 1) = j + i + 1 by omega, P_succ]
      rw [P_add j i] at *
      clear ih
      grind
/-- back: the whole list's value -/
theorem back_f {u v : List Int} (hu : W u) (hv : W v) (j : Nat) (hl : j + v.length < u.length) :
    ∃ u' b, nat_back.f u j v = some u' ∧ W u' ∧ u'.length = u.length ∧ (b = 0 ∨ b = 1) ∧ (∀ m : Nat, j + v.length < m → rd u' (m : Int) = rd u (m : Int)) ∧
      Aside0 (V u' = V u + P j * V v - P (j + v.length + 1) * b) := by
  obtain ⟨u1, c, e, hw, hlen, c0, c1, hrd, HV⟩ := back_at hu hv j v.length (Nat.le_refl _) (by omega)
  have ru := W_rd hw ((j + v.length : Nat) : Int)
  refine ⟨u1.set (j + v.length) ((rd u1 ((j + v.length : Nat) : Int) + c) % 4294967296), (rd u1 ((j + v.length : Nat) : Int) + c) / 4294967296, ?_, W_set hw _ (by omega) (by omega), by rw [List.length_set, hlen], by omega, ?_, ⟨?_⟩⟩
  · unfold nat_back.f
    rw [e, Option.bind_some]
  · intro m hm
    rw [rd_set_ne _ _ _ _ (by omega)]
    exact hrd m (by omega)
  · have hv' := HV.out
    have ed := Int.emod_add_mul_ediv (rd u1 ((j + v.length : Nat) : Int) + c) 4294967296
    rw [List.take_length] at hv'
    rw [V_set _ _ _ (by omega), P_succ]
    grind
end Go.Proofs.Ytplioajciapojaa.N
