/- The loop that mends the long division's guess. -/
import Derived.Test.YtplioajciapojaaPqd
import Derived.Test.YtplioajciapojaaN9
namespace Go.Proofs.Ytplioajciapojaa.N
set_option linter.unusedVariables false
set_option linter.unusedSimpArgs false
open Go Go.RowKit Go.Proofs.YtplioajciapojaaW.PrintWords Go.Proofs.YtplioajciapojaaW.PrintLast Go.Proofs.YtplioajciapojaaW.PrintMore Go.Proofs.Ytplioajciapojaa.Pq

theorem guess_l {u v q : List Int} {sh : Int} (hu : W u) (hv : W v) {j n : Nat} (hn : v.length = n + 2) (hlen : j + n + 2 < u.length) (hul : u.length < 35184372088832) {X D top u2 v1 v2 Q xl dl : Int}
    (h : Two X D top u2 v1 v2 Q xl dl) (e1 : v1 = rd v ((n + 1 : Nat) : Int)) (e2 : v2 = rd v (n : Int)) (eu : u2 = rd u ((j + n : Nat) : Int)) (R : List Int × List Int)
    (next : ∀ g, 0 ≤ g → g < 4294967296 → (g - 1) * D ≤ X → X < (g + 1) * D → Ev (fun k => nat_long.j4 k sh v u ((n + 2 : Nat) : Int) q (j : Int) g) R) :
    ∀ (m : Nat) (g r : Int), g.toNat ≤ m → Gs X D top v1 g r → Ev (fun k => nat_long.l2 k sh v u ((n + 2 : Nat) : Int) q (j : Int) g r) R := by
  have b2 : (n : Int) < (v.length : Int) := by omega
  have b4 : ((j + n : Nat) : Int) < (u.length : Int) := by omega
  have w1 : wrap64 (((n + 2 : Nat) : Int) - 1) = ((n + 1 : Nat) : Int) := by unfold wrap64; omega
  have w2 : wrap64 (((n + 2 : Nat) : Int) - 2) = (n : Int) := by unfold wrap64; omega
  have w3 : wrap64 (wrap64 ((j : Int) + ((n + 2 : Nat) : Int)) - 2) = ((j + n : Nat) : Int) := by
    rw [show wrap64 ((j : Int) + ((n + 2 : Nat) : Int)) = ((j + n + 2 : Nat) : Int) by unfold wrap64; omega]
    unfold wrap64
    omega
  have dpos : 0 < D := by have := h.d0; have := h.q; omega
  have hv1 := h.v1
  have hv2 := h.v2
  have hu2 := h.u2
  have e0 : IntKind.u64.wrap (rd v ((n + 1 : Nat) : Int)) = v1 := by rw [← e1, wrap_u64_of (by omega) (by omega)]
  -- the way down by one
  have down : ∀ (m : Nat), (∀ (g r : Int), g.toNat ≤ m → Gs X D top v1 g r → Ev (fun k => nat_long.l2 k sh v u ((n + 2 : Nat) : Int) q (j : Int) g r) R) →
      ∀ (g r : Int), g.toNat ≤ m + 1 → Gs X D top v1 g r → X < g * D → Ev (fun k => nat_long.j3 k sh v u ((n + 2 : Nat) : Int) q (j : Int) g r true) R := by
    intro m ih g r hm hg hlt
    have gp := h.pos hlt
    have hr := hg.r
    have gb := hg.g
    have e' : (g - 1) * v1 + (r + v1) = top := by rw [Int.sub_mul, Int.one_mul]; have := hg.e; omega
    have hlt' : X < (g - 1 + 1) * D := by rw [show g - 1 + 1 = g by omega]; exact hlt
    refine Ev_up ?_
    unfold nat_long.j3
    refine Ev_pos rfl ?_
    rw [w1, e0, wrap_u64_of (x := r + v1) (by omega) (by omega), wrap_u64_of (x := g - 1) (by omega) (by omega)]
    refine Ev_pos (by omega) ?_
    refine Ev_pos (by omega) ?_
    by_cases hb : r + v1 ≥ 4294967296
    · refine Ev_pos hb ?_
      have gs := h.small e' hb
      have h3 : (g - 1) * v2 ≤ 4294967296 * v2 := Int.mul_le_mul_of_nonneg_right (by omega) hv2.1
      exact next (g - 1) (by omega) gs (h.less (by omega) gs e' (by omega)) hlt'
    · refine Ev_neg hb ?_
      exact ih (g - 1) (r + v1) (by omega) ⟨hlt', e', by omega, by omega⟩
  intro m
  have go : ∀ (g r : Int), (X < g * D → Ev (fun k => nat_long.j3 k sh v u ((n + 2 : Nat) : Int) q (j : Int) g r true) R) → Gs X D top v1 g r → Ev (fun k => nat_long.l2 k sh v u ((n + 2 : Nat) : Int) q (j : Int) g r) R := by
    intro g r hdown hg
    have hr := hg.r
    have gb := hg.g
    refine Ev_up ?_
    unfold nat_long.l2
    by_cases hb : g ≥ 4294967296
    · refine Ev_pos hb ?_
      refine hdown ?_
      have h1 : 4294967296 * D ≤ g * D := Int.mul_le_mul_of_nonneg_right hb (by omega)
      have := h.lt
      omega
    · refine Ev_neg hb ?_
      refine Ev_pos (by omega) ?_
      have hm := limb_mul (x := g) (y := v2) (o := 0) (c := 0) ⟨gb.1, by omega⟩ hv2 (by omega) (by omega)
      have ew : IntKind.u64.wrap (g * IntKind.u64.wrap (rd v (n : Int))) = g * v2 := by
        rw [← e2, wrap_u64_of hv2.1 (by omega), wrap_u64_of hm.1 (by omega)]
      have eo : Go.bits .or .u64 (IntKind.u64.wrap (r * 4294967296)) (IntKind.u64.wrap (rd u ((j + n : Nat) : Int))) = r * 4294967296 + u2 := by
        rw [← eu, wrap_u64_of (x := r * 4294967296) (by omega) (by omega), wrap_u64_of hu2.1 (by omega), or64_f hr hu2]
      rw [w2, w3, ew, eo]
      refine Ev_pos (Int.natCast_nonneg _) ?_
      refine Ev_pos b2 ?_
      refine Ev_pos (Int.natCast_nonneg _) ?_
      refine Ev_pos b4 ?_
      by_cases hc : g * v2 > r * 4294967296 + u2
      · rw [decide_eq_true hc]
        exact hdown (h.more gb.1 hg.e hc)
      · rw [decide_eq_false hc]
        refine Ev_up ?_
        unfold nat_long.j3
        refine Ev_neg (by decide) ?_
        exact next g gb.1 (by omega) (h.less gb.1 (by omega) hg.e (by omega)) hg.lt
  induction m with
  | zero =>
    intro g r hm hg
    refine go g r (fun hlt => ?_) hg
    have := h.pos hlt
    omega
  | succ m ih =>
    intro g r hm hg
    exact go g r (fun hlt => down m ih g r hm hg hlt) hg
end Go.Proofs.Ytplioajciapojaa.N
