/- Lists of limbs by their value and a bound of their length: what each operation makes of them. -/
import Derived.Test.YtplioajciapojaaN2
namespace Go.Proofs.Ytplioajciapojaa.N
set_option linter.unusedVariables false
set_option linter.unusedSimpArgs false
open Go.RowKit Go.Proofs.YtplioajciapojaaW.PrintWords Go.Proofs.YtplioajciapojaaW.PrintLast Go.Proofs.Ytplioajciapojaa.Pq

/-- a list of at most n limbs, of value x -/
structure Nm (l : List Int) (n : Nat) (x : Int) : Prop where
  w : W l
  v : V l = x
  le : l.length ≤ n
theorem Nm.pos {l : List Int} {n : Nat} {x : Int} (h : Nm l n x) : 0 ≤ x := h.v ▸ V_nonneg h.w
theorem Nm.lt {l : List Int} {n : Nat} {x : Int} (h : Nm l n x) : x < P n := by
  have h1 := V_lt h.w
  have h2 := P_le h.le
  have h3 := h.v
  omega
theorem Nm.L {n : Nat} {x : Int} (h0 : 0 ≤ x) (h1 : x < P n) : Nm (L x) n x := ⟨W_L x, V_L h0, L_length_le n h1⟩
theorem Nm.of {l : List Int} {n : Nat} (h : ∀ x ∈ l, (Lit.int .u32 x).wf = true) (hn : l.length ≤ n) : Nm l n (V l) := ⟨wf_of h, rfl, hn⟩
theorem Nm.nil : Nm [] 0 0 := ⟨W_nil, V_nil, Nat.le_refl _⟩
theorem Nm.one : Nm [1] 1 1 := ⟨W_one (by decide) (by decide), V_one 1, Nat.le_refl _⟩
theorem Nm.up {l : List Int} {m n : Nat} {x : Int} (h : Nm l m x) (hmn : m ≤ n) : Nm l n x := ⟨h.w, h.v, Nat.le_trans h.le hmn⟩
theorem Nm.norm {l : List Int} {n : Nat} {x : Int} (h : Nm l n x) : Nm (N.L x) n x := Nm.L h.pos h.lt
theorem Nm.sumL {a b : List Int} {m n : Nat} {x y : Int} (h : Nm a m x) (k : Nm b n y) : Nm (N.L (x + y)) (m + n + 1) (x + y) := by
  have h1 := h.lt
  have h2 := k.lt
  have h3 := h.pos
  have h4 := k.pos
  have h5 := P_le (show m ≤ m + n by omega)
  have h6 := P_le (show n ≤ m + n by omega)
  refine Nm.L (by omega) ?_
  rw [P_succ]
  omega
theorem Nm.mulL {a b : List Int} {m n : Nat} {x y : Int} (h : Nm a m x) (k : Nm b n y) : Nm (N.L (x * y)) (m + n) (x * y) := by
  refine Nm.L (Int.mul_nonneg h.pos k.pos) ?_
  rw [P_add]
  have h1 : x * y ≤ x * (P n - 1) := Int.mul_le_mul_of_nonneg_left (by have := k.lt; omega) h.pos
  have h2 : x * P n < P m * P n := Int.mul_lt_mul_of_pos_right h.lt (P_pos n)
  have h3 := h.pos
  rw [Int.mul_sub] at h1
  omega
theorem Nm.add {a b : List Int} {m n : Nat} {x y : Int} (h : Nm a m x) (k : Nm b n y) (hm : m < 35184372087809) (hn : n < 35184372087809) : Ev (fun r => nat_Add.f r a b) (N.L (x + y)) := by
  have h1 := h.le
  have h2 := k.le
  have e := nadd_f h.w k.w (by unfold Sm; omega) (by unfold Sm; omega)
  rwa [h.v, k.v] at e
theorem Nm.cmp {a b : List Int} {m n : Nat} {x y : Int} (h : Nm a m x) (k : Nm b n y) (hm : m < 35184372087809) (hn : n < 35184372087809) : Ev (fun r => nat_Cmp.f r a b) (cm x y) := by
  have h1 := h.le
  have h2 := k.le
  have e := ncmp_f h.w k.w (by unfold Sm; omega) (by unfold Sm; omega)
  rwa [h.v, k.v] at e
theorem Nm.sub {a b : List Int} {m n : Nat} {x y : Int} (h : Nm a m x) (k : Nm b n y) (hm : m < 35184372087809) (hn : n < 35184372087809) : Ev (fun r => nat_Sub.f r a b) (subS x y) := by
  have h1 := h.le
  have h2 := k.le
  have e := nsub_f h.w k.w (by unfold Sm; omega) (by unfold Sm; omega)
  rwa [h.v, k.v] at e
theorem Nm.mul {a b : List Int} {m n : Nat} {x y : Int} (h : Nm a m x) (k : Nm b n y) (hm : m < 35184372087809) (hn : n < 35184372087809) : Ev (fun r => nat_Mul.f r a b) (N.L (x * y)) := by
  have h1 := h.le
  have h2 := k.le
  have e := nmul_f h.w k.w (by omega)
  rwa [h.v, k.v] at e
theorem Nm.nrm {a : List Int} {m : Nat} {x : Int} (h : Nm a m x) (hm : m < 35184372087809) : nat_Norm.f a = some (N.L x) := by
  have h1 := h.le
  have e := norm_f h.w (by unfold Sm; omega)
  rwa [h.v] at e
theorem Nm.same {a b : List Int} {m : Nat} {x : Int} (h : Nm a m x) (hm : m < 35184372087809) (e : a = b) : Ev (fun k => penumbraref01_Same.f k a b) true := by
  subst e
  have h1 := h.le
  exact same_f (by omega)
theorem cm_add (x y z : Int) : cm (x + z) (y + z) = cm x y := by
  unfold cm
  by_cases h1 : x < y
  · rw [if_pos h1, if_pos (by omega)]
  · rw [if_neg h1, if_neg (by omega)]
    by_cases h2 : y < x
    · simp [h2]
    · simp [h2]
theorem cm_lt {x y : Int} (h : x < y) : cm x y = -1 := if_pos h
theorem cm_eq (x : Int) : cm x x = 0 := by unfold cm; simp
theorem cm_gt {x y : Int} (h : y < x) : cm x y = 1 := by unfold cm; rw [if_neg (by omega)]; simp [h]
theorem cm_mul (x y : Int) {z : Int} (hz : 0 < z) : cm (x * z) (y * z) = cm x y := by
  rcases Int.lt_trichotomy x y with h | h | h
  · rw [cm_lt h, cm_lt (Int.mul_lt_mul_of_pos_right h hz)]
  · rw [h, cm_eq, cm_eq]
  · rw [cm_gt h, cm_gt (Int.mul_lt_mul_of_pos_right h hz)]
end Go.Proofs.Ytplioajciapojaa.N
