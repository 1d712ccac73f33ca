/- Naturals as lists of limbs: their values (V), the normal list of a value (L), well-formed lists (W). Plain Lean: no Go in it. -/
import Derived.Test.YtplioajciapojaaPqd
namespace Go.Proofs.Ytplioajciapojaa.N
set_option linter.unusedVariables false
set_option linter.unusedSimpArgs false
open Go.RowKit Go.Proofs.YtplioajciapojaaW.PrintWords

/-- the value of a list of limbs -/
def V : List Int → Int
  | [] => 0
  | x :: l => x + 4294967296 * V l
/-- each limb is one -/
def W (l : List Int) : Prop := ∀ x ∈ l, 0 ≤ x ∧ x < 4294967296
/-- powers of 2^32 -/
def P (n : Nat) : Int := 4294967296 ^ n
theorem P_zero : P 0 = 1 := rfl
theorem P_succ (n : Nat) : P (n + 1) = 4294967296 * P n := by unfold P; rw [Int.pow_succ, Int.mul_comm]
theorem P_pos (n : Nat) : 0 < P n := by
  induction n with
  | zero => decide
  | succ n ih => rw [P_succ]; omega
theorem P_add (m n : Nat) : P (m + n) = P m * P n := by unfold P; rw [Int.pow_add]
theorem P_one_le (n : Nat) : 1 ≤ P n := by have := P_pos n; omega
theorem P_le {m n : Nat} (h : m ≤ n) : P m ≤ P n := by
  obtain ⟨d, rfl⟩ := Nat.exists_eq_add_of_le h
  rw [P_add]
  have h1 := P_pos m
  have h2 := P_one_le d
  have h3 : P m * 1 ≤ P m * P d := Int.mul_le_mul_of_nonneg_left h2 (by omega)
  omega
theorem P_lt {m n : Nat} (h : m < n) : P m < P n := by
  have h1 := P_le (show m + 1 ≤ n from h)
  rw [P_succ] at h1
  have := P_pos m
  omega
theorem W_nil : W [] := fun _ h => by cases h
theorem W_cons {x : Int} {l : List Int} : W (x :: l) ↔ (0 ≤ x ∧ x < 4294967296) ∧ W l := by
  constructor
  · exact fun h => ⟨h x (List.mem_cons_self ..), fun y hy => h y (List.mem_cons_of_mem _ hy)⟩
  · rintro ⟨h1, h2⟩ y hy
    rcases List.mem_cons.1 hy with rfl | hy
    · exact h1
    · exact h2 y hy
theorem W_append {l m : List Int} (h : W l) (k : W m) : W (l ++ m) := fun x hx => by
  rcases List.mem_append.1 hx with hx | hx
  · exact h x hx
  · exact k x hx
theorem W_one {x : Int} (h0 : 0 ≤ x) (h1 : x < 4294967296) : W [x] := W_cons.2 ⟨⟨h0, h1⟩, W_nil⟩
theorem W_take {l : List Int} (h : W l) (n : Nat) : W (l.take n) := fun x hx => h x (List.mem_of_mem_take hx)
theorem W_drop {l : List Int} (h : W l) (n : Nat) : W (l.drop n) := fun x hx => h x (List.mem_of_mem_drop hx)
theorem W_set {l : List Int} (h : W l) (i : Nat) {x : Int} (h0 : 0 ≤ x) (h1 : x < 4294967296) : W (l.set i x) := fun y hy => by
  rcases List.mem_or_eq_of_mem_set hy with hy | rfl
  · exact h y hy
  · exact ⟨h0, h1⟩
theorem W_replicate (n : Nat) : W (List.replicate n 0) := fun x hx => by
  have := List.eq_of_mem_replicate hx
  omega
theorem W_rd {l : List Int} (h : W l) (i : Int) : 0 ≤ rd l i ∧ rd l i < 4294967296 := by
  unfold rd
  by_cases hi : i.toNat < l.length
  · have e : l.getD i.toNat 0 = l[i.toNat] := by simp [List.getD_eq_getElem?_getD, hi]
    rw [e]
    exact h _ (List.getElem_mem hi)
  · have e : l.getD i.toNat 0 = 0 := by simp [List.getD_eq_getElem?_getD, List.getElem?_eq_none (Nat.le_of_not_lt hi)]
    omega
theorem W_getD {l : List Int} (h : W l) (i : Nat) : 0 ≤ l.getD i 0 ∧ l.getD i 0 < 4294967296 := by
  have := W_rd h (i : Int)
  simpa [rd] using this
theorem V_nil : V [] = 0 := rfl
theorem V_cons (x : Int) (l : List Int) : V (x :: l) = x + 4294967296 * V l := rfl
theorem V_one (x : Int) : V [x] = x := by simp [V]
theorem V_nonneg {l : List Int} (h : W l) : 0 ≤ V l := by
  induction l with
  | nil => exact Int.le_refl _
  | cons x l ih =>
    obtain ⟨h1, h2⟩ := W_cons.1 h
    have := ih h2
    rw [V_cons]
    omega
theorem V_lt {l : List Int} (h : W l) : V l < P l.length := by
  induction l with
  | nil => decide
  | cons x l ih =>
    obtain ⟨h1, h2⟩ := W_cons.1 h
    have := ih h2
    rw [V_cons, List.length_cons, P_succ]
    omega
theorem V_append (l m : List Int) : V (l ++ m) = V l + P l.length * V m := by
  induction l with
  | nil => simp [V, P]
  | cons x l ih =>
    rw [List.cons_append, V_cons, V_cons, ih, List.length_cons, P_succ]
    grind
theorem V_snoc (l : List Int) (x : Int) : V (l ++ [x]) = V l + P l.length * x := by rw [V_append, V_one]
theorem V_replicate (n : Nat) : V (List.replicate n 0) = 0 := by
  induction n with
  | zero => rfl
  | succ n ih => rw [List.replicate_succ, V_cons, ih]; rfl
theorem take_succ_rd (l : List Int) (i : Nat) (h : i < l.length) : l.take (i + 1) = l.take i ++ [rd l (i : Int)] := by
  rw [List.take_succ_eq_append_getElem h]
  simp [rd, List.getD_eq_getElem?_getD, h]
theorem V_take_succ (l : List Int) (i : Nat) (h : i < l.length) : V (l.take (i + 1)) = V (l.take i) + P i * rd l (i : Int) := by
  rw [take_succ_rd l i h, V_snoc, List.length_take, Nat.min_eq_left (by omega)]
/-- rd beyond the end is 0 -/
theorem rd_beyond (l : List Int) (i : Int) (h : l.length ≤ i.toNat) : rd l i = 0 := by
  simp [rd, List.getD_eq_getElem?_getD, List.getElem?_eq_none h]
theorem V_take_succ' (l : List Int) (i : Nat) : V (l.take (i + 1)) = V (l.take i) + P i * rd l (i : Int) := by
  by_cases h : i < l.length
  · exact V_take_succ l i h
  · rw [rd_beyond l i (by simpa using h), List.take_of_length_le (by omega), List.take_of_length_le (by omega)]
    simp
theorem V_take_all (l : List Int) (n : Nat) (h : l.length ≤ n) : V (l.take n) = V l := by rw [List.take_of_length_le h]
theorem V_split (l : List Int) (n : Nat) (h : n ≤ l.length) : V l = V (l.take n) + P n * V (l.drop n) := by
  have h1 := V_append (l.take n) (l.drop n)
  rw [List.take_append_drop, List.length_take, Nat.min_eq_left h] at h1
  exact h1
theorem V_split' (l : List Int) (n : Nat) : V l = V (l.take n) + P n * V (l.drop n) := by
  by_cases h : n ≤ l.length
  · exact V_split l n h
  · rw [List.take_of_length_le (by omega), List.drop_of_length_le (by omega), V_nil]
    simp
theorem V_set (l : List Int) (i : Nat) (x : Int) (h : i < l.length) : V (l.set i x) = V l + P i * (x - rd l (i : Int)) := by
  induction l generalizing i with
  | nil => cases h
  | cons y l ih =>
    cases i with
    | zero => simp [V, rd, P]; omega
    | succ i =>
      rw [List.set_cons_succ, V_cons, V_cons, ih i (by simpa using h), P_succ]
      have e : rd (y :: l) ((i + 1 : Nat) : Int) = rd l (i : Int) := by simp only [rd, Int.toNat_natCast, List.getD_cons_succ]
      rw [e]
      grind
theorem rd_set_eq (l : List Int) (i : Nat) (x : Int) (h : i < l.length) : rd (l.set i x) (i : Int) = x := by
  simp [rd, List.getD_eq_getElem?_getD, h]
theorem rd_set_ne (l : List Int) (i : Nat) (x : Int) (j : Int) (h : j.toNat ≠ i) : rd (l.set i x) j = rd l j := by
  simp only [rd, List.getD_eq_getElem?_getD]
  rw [List.getElem?_set_ne (by omega)]
theorem rd_append_left (l m : List Int) (i : Int) (h : i.toNat < l.length) : rd (l ++ m) i = rd l i := by
  simp [rd, List.getD_eq_getElem?_getD, List.getElem?_append_left h]
theorem rd_append_right (l m : List Int) (i : Int) (h : l.length ≤ i.toNat) : rd (l ++ m) i = rd m (i - l.length) := by
  simp only [rd, List.getD_eq_getElem?_getD]
  rw [List.getElem?_append_right h]
  congr 2
  omega
theorem rd_replicate (n : Nat) (i : Int) : rd (List.replicate n 0) i = 0 := by
  simp only [rd, List.getD_eq_getElem?_getD, List.getElem?_replicate]
  split <;> rfl

/-- the normal list of a value -/
def L (n : Int) : List Int := if h : 0 < n then n % 4294967296 :: L (n / 4294967296) else []
termination_by n.toNat
decreasing_by omega
theorem L_zero : L 0 = [] := by unfold L; rfl
theorem L_pos {n : Int} (h : 0 < n) : L n = n % 4294967296 :: L (n / 4294967296) := by
  conv => lhs; unfold L
  rw [dif_pos h]
theorem L_neg {n : Int} (h : n ≤ 0) : L n = [] := by
  unfold L
  rw [dif_neg (by omega)]
theorem V_L : ∀ {n : Int}, 0 ≤ n → V (L n) = n := by
  have H : ∀ (k : Nat) (n : Int), n.toNat ≤ k → 0 ≤ n → V (L n) = n := by
    intro k
    induction k with
    | zero => intro n h h0; rw [show n = 0 by omega, L_zero]; rfl
    | succ k ih =>
      intro n h h0
      rcases Int.lt_or_eq_of_le h0 with hp | rfl
      · rw [L_pos hp, V_cons, ih (n / 4294967296) (by omega) (by omega)]
        omega
      · rw [L_zero]; rfl
  exact fun {n} h => H n.toNat n (Nat.le_refl _) h
theorem W_L : ∀ (n : Int), W (L n) := by
  have H : ∀ (k : Nat) (n : Int), n.toNat ≤ k → W (L n) := by
    intro k
    induction k with
    | zero => intro n h; rw [L_neg (by omega)]; exact W_nil
    | succ k ih =>
      intro n h
      by_cases hp : 0 < n
      · rw [L_pos hp]
        exact W_cons.2 ⟨by omega, ih _ (by omega)⟩
      · rw [L_neg (by omega)]; exact W_nil
  exact fun n => H n.toNat n (Nat.le_refl _)
theorem L_length_le : ∀ (m : Nat) {n : Int}, n < P m → (L n).length ≤ m := by
  intro m
  induction m with
  | zero =>
    intro n h
    rw [P_zero] at h
    rw [L_neg (by omega)]
    exact Nat.le_refl _
  | succ m ih =>
    intro n h
    rw [P_succ] at h
    by_cases hp : 0 < n
    · rw [L_pos hp, List.length_cons]
      have := ih (n := n / 4294967296) (by omega)
      omega
    · rw [L_neg (by omega)]
      exact Nat.zero_le _
theorem L_length_lt {m : Nat} {n : Int} (h : P m ≤ n) : m < (L n).length := by
  rcases Nat.lt_or_ge m (L n).length with hlt | hge
  · exact hlt
  · have h0 : 0 ≤ n := by have := P_pos m; omega
    have h1 := V_lt (W_L n)
    rw [V_L h0] at h1
    have := P_le hge
    omega
theorem L_nil_iff {n : Int} (h : 0 ≤ n) : L n = [] ↔ n = 0 := by
  constructor
  · intro e
    have := V_L h
    rw [e] at this
    exact this.symm
  · rintro rfl
    exact L_zero
theorem L_inj {m n : Int} (hm : 0 ≤ m) (hn : 0 ≤ n) (h : L m = L n) : m = n := by rw [← V_L hm, ← V_L hn, h]
/-- a list whose last limb isn't 0 is the normal one of its value -/
theorem L_V : ∀ {l : List Int}, W l → (∀ h : l ≠ [], l.getLast h ≠ 0) → L (V l) = l := by
  intro l
  induction l with
  | nil => intro _ _; exact L_zero
  | cons x l ih =>
    intro hw hl
    obtain ⟨h1, h2⟩ := W_cons.1 hw
    have hv := V_nonneg h2
    have hih : L (V l) = l := ih h2 (fun hne => by
      have := hl (by simp)
      rwa [List.getLast_cons hne] at this)
    have hp : 0 < V (x :: l) := by
      rw [V_cons]
      by_cases hne : l = []
      · subst hne
        have := hl (by simp)
        simp at this
        simp [V]
        omega
      · have : V l ≠ 0 := fun e => hne (by rw [← hih, e, L_zero])
        omega
    rw [L_pos hp, V_cons, show (x + 4294967296 * V l) % 4294967296 = x by omega, show (x + 4294967296 * V l) / 4294967296 = V l by omega, hih]
theorem L_last {n : Int} : ∀ h : L n ≠ [], (L n).getLast h ≠ 0 := by
  have H : ∀ (k : Nat) (n : Int), n.toNat ≤ k → ∀ h : L n ≠ [], (L n).getLast h ≠ 0 := by
    intro k
    induction k with
    | zero => intro n h hne; exact absurd (L_neg (by omega)) hne
    | succ k ih =>
      intro n h hne
      by_cases hp : 0 < n
      · have e := L_pos hp
        by_cases hz : L (n / 4294967296) = []
        · have hz0 := (L_nil_iff (show 0 ≤ n / 4294967296 by omega)).1 hz
          have : (L n).getLast hne = n % 4294967296 := by
            simp only [e, hz, List.getLast_singleton]
          rw [this]
          omega
        · have := ih (n / 4294967296) (by omega) hz
          have e2 : (L n).getLast hne = (L (n / 4294967296)).getLast hz := by
            simp only [e, List.getLast_cons hz]
          rw [e2]
          exact this
      · exact absurd (L_neg (by omega)) hne
  exact H n.toNat n (Nat.le_refl _)
/-- values of lists of one length are ordered by the limbs from the last one on -/
theorem V_take_lt {a : List Int} (h : W a) (i : Nat) : V (a.take i) < P i := by
  have h1 := V_lt (W_take h i)
  have h2 : (a.take i).length ≤ i := List.length_take_le _ _
  have := P_le h2
  omega
theorem P_mul_lt {i : Nat} {x y p q : Int} (hp0 : 0 ≤ p) (hp : p < P i) (hq0 : 0 ≤ q) (h : x < y) : p + P i * x < q + P i * y := by
  have h1 : P i * (x + 1) ≤ P i * y := Int.mul_le_mul_of_nonneg_left (by omega) (by have := P_pos i; omega)
  rw [Int.mul_add] at h1
  omega
theorem wrap64_of {x : Int} (h0 : -9223372036854775808 ≤ x) (h1 : x ≤ 9223372036854775807) : wrap64 x = x := by unfold wrap64; omega
theorem wrap_u64_of {x : Int} (h0 : 0 ≤ x) (h1 : x < 18446744073709551616) : IntKind.u64.wrap x = x := by
  simp only [IntKind.wrap, IntKind.bits, IntKind.signed]
  simp
  omega
theorem wf_of {l : List Int} (h : ∀ x ∈ l, (Lit.int .u32 x).wf = true) : W l := fun x hx => by
  have h1 := h x hx
  simp [Lit.wf] at h1
  have e1 : IntKind.u32.min = 0 := rfl
  have e2 : IntKind.u32.max = 4294967295 := rfl
  omega
theorem wf_u64 {n : Int} (h : (Lit.int .u64 n).wf = true) : 0 ≤ n ∧ n < 18446744073709551616 := by
  simp [Lit.wf] at h
  have e1 : IntKind.u64.min = 0 := rfl
  have e2 : IntKind.u64.max = 18446744073709551615 := rfl
  omega
theorem wf_i64 {n : Int} (h : (Lit.int .i64 n).wf = true) : -9223372036854775808 ≤ n ∧ n ≤ 9223372036854775807 := by
  simp [Lit.wf] at h
  have e1 : IntKind.i64.min = -9223372036854775808 := rfl
  have e2 : IntKind.i64.max = 9223372036854775807 := rfl
  omega
attribute [irreducible] P V
end Go.Proofs.Ytplioajciapojaa.N
