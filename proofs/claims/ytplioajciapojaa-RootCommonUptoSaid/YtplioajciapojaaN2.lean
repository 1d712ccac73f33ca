/- What multiplying comes to: by values. -/
import Derived.Test.YtplioajciapojaaPqd
import Derived.Test.YtplioajciapojaaN1
namespace Go.Proofs.Ytplioajciapojaa.N
set_option linter.unusedVariables false
set_option linter.unusedSimpArgs false
open Go.RowKit Go.Proofs.YtplioajciapojaaW.PrintWords Go.Proofs.YtplioajciapojaaW.PrintLast Go.Proofs.Ytplioajciapojaa.Pq

/-- one product of limbs with a limb and a carry added stays in 64 bits -/
theorem limb_mul {x y o c : Int} (hx : 0 ≤ x ∧ x < 4294967296) (hy : 0 ≤ y ∧ y < 4294967296) (ho : 0 ≤ o ∧ o < 4294967296) (hc : 0 ≤ c ∧ c < 4294967296) :
    0 ≤ x * y ∧ x * y ≤ 18446744065119617025 := by
  constructor
  · exact Int.mul_nonneg hx.1 hy.1
  · have h1 : x * y ≤ 4294967295 * y := Int.mul_le_mul_of_nonneg_right (by omega) hy.1
    omega
theorem mul_wrap {x y o c : Int} (hx : 0 ≤ x ∧ x < 4294967296) (hy : 0 ≤ y ∧ y < 4294967296) (ho : 0 ≤ o ∧ o < 4294967296) (hc : 0 ≤ c ∧ c < 4294967296) :
    IntKind.u64.wrap (IntKind.u64.wrap (IntKind.u64.wrap (IntKind.u64.wrap x * IntKind.u64.wrap y) + IntKind.u64.wrap o) + c) = x * y + o + c := by
  have h := limb_mul hx hy ho hc
  rw [wrap_u64_of (x := x) (by omega) (by omega), wrap_u64_of (x := y) (by omega) (by omega), wrap_u64_of (x := o) (by omega) (by omega), wrap_u64_of (x := x * y) (by omega) (by omega), wrap_u64_of (x := x * y + o) (by omega) (by omega), wrap_u64_of (by omega) (by omega)]
theorem mul_wrap' {x y o c : Int} (hx : 0 ≤ x ∧ x < 4294967296) (hy : 0 ≤ y ∧ y < 4294967296) (ho : 0 ≤ o ∧ o < 4294967296) (hc : 0 ≤ c ∧ c < 4294967296) :
    Int.tmod (IntKind.u64.wrap (IntKind.u64.wrap (IntKind.u64.wrap (IntKind.u64.wrap x * IntKind.u64.wrap y) + IntKind.u64.wrap o) + c)) 4294967296 % 4294967296 = (x * y + o + c) % 4294967296 ∧
    IntKind.u64.wrap (Int.tdiv (IntKind.u64.wrap (IntKind.u64.wrap (IntKind.u64.wrap (IntKind.u64.wrap x * IntKind.u64.wrap y) + IntKind.u64.wrap o) + c)) 4294967296) = (x * y + o + c) / 4294967296 := by
  have h := limb_mul hx hy ho hc
  rw [mul_wrap hx hy ho hc, Int.tmod_eq_emod_of_nonneg (by omega), Int.tdiv_eq_ediv_of_nonneg (by omega), wrap_u64_of (by omega) (by omega), Int.emod_emod]
  exact ⟨rfl, rfl⟩
/-- what one step of the inner loop does to the value -/
theorem mul_step {o : List Int} (n : Nat) (h : n < o.length) (x y c : Int) :
    V (o.set n ((x * y + rd o (n : Int) + c) % 4294967296)) + P (n + 1) * ((x * y + rd o (n : Int) + c) / 4294967296) = V o + P n * (x * y + c) := by
  rw [V_set o n _ h, P_succ]
  have := Int.emod_add_mul_ediv (x * y + rd o (n : Int) + c) 4294967296
  grind
/-- the invariant of the outer loop -/
structure MulI (a b o : List Int) (n i : Nat) : Prop where
  w : W o
  len : o.length = n
  val : V o = V (a.take i) * V b
  zero : ∀ j : Nat, i + b.length ≤ j → rd o (j : Int) = 0
/-- the invariant of the inner loop -/
structure MulJ (a b o : List Int) (n i j : Nat) (c : Int) : Prop where
  w : W o
  len : o.length = n
  c0 : 0 ≤ c ∧ c < 4294967296
  val : V o + P (i + j) * c = V (a.take i) * V b + P i * (rd a (i : Int) * V (b.take j))
  zero : ∀ m : Nat, i + b.length ≤ m → rd o (m : Int) = 0
theorem MulI.start (a b : List Int) (n : Nat) : MulI a b (List.replicate n 0) n 0 :=
  ⟨W_replicate n, by simp, by simp [V_replicate, V_nil], fun j _ => rd_replicate n j⟩
theorem MulI.inner {a b o : List Int} {n i : Nat} (h : MulI a b o n i) : MulJ a b o n i 0 0 :=
  ⟨h.w, h.len, by omega, by rw [h.val]; simp [V_nil], h.zero⟩
theorem MulJ.step {a b o : List Int} {n i j : Nat} {c : Int} (h : MulJ a b o n i j c) (hb : W b) (ha : W a) (hj : j < b.length) (hn : i + b.length < n) :
    MulJ a b (o.set (i + j) ((rd a (i : Int) * rd b (j : Int) + rd o ((i + j : Nat) : Int) + c) % 4294967296)) n i (j + 1) ((rd a (i : Int) * rd b (j : Int) + rd o ((i + j : Nat) : Int) + c) / 4294967296) := by
  have hlt : i + j < o.length := by rw [h.len]; omega
  have ra := W_rd ha (i : Int)
  have rb := W_rd hb (j : Int)
  have ro := W_rd h.w ((i + j : Nat) : Int)
  have hm := limb_mul ra rb ro h.c0
  have hc := h.c0
  refine ⟨W_set h.w _ (by omega) (by omega), by rw [List.length_set, h.len], by omega, ?_, ?_⟩
  · have e := mul_step (i + j) hlt (rd a (i : Int)) (rd b (j : Int)) c
    have hv := h.val
    have ep := P_add i j
    rw [V_take_succ' b j, show i + (j + 1) = i + j + 1 by omega]
    clear hm hc ro rb ra
    grind
  · intro m hm
    rw [rd_set_ne _ _ _ _ (by omega)]
    exact h.zero m hm
theorem MulJ.done {a b o : List Int} {n i : Nat} {c : Int} (h : MulJ a b o n i b.length c) (hn : i + b.length < n) : MulI a b (o.set (i + b.length) (c % 4294967296)) n (i + 1) := by
  have hc := h.c0
  rw [Int.emod_eq_of_lt hc.1 hc.2]
  refine ⟨W_set h.w _ hc.1 hc.2, by rw [List.length_set, h.len], ?_, ?_⟩
  · rw [V_set _ _ _ (by rw [h.len]; omega), h.zero (i + b.length) (Nat.le_refl _), V_take_succ' a i]
    have hv := h.val
    rw [List.take_length] at hv
    grind
  · intro m hm
    rw [rd_set_ne _ _ _ _ (by omega)]
    exact h.zero m (by omega)
theorem nmul_l1 {a b : List Int} (ha : W a) (hb : W b) (hl : a.length + b.length ≤ 70368744177664) {i : Nat} (hi : i < a.length) (R : List Int)
    (hnext : ∀ o, MulI a b o (a.length + b.length) (i + 1) → Ev (fun k => nat_Mul.l0 k b o a (a.length : Int) ((i + 1 : Nat) : Int)) R) :
    ∀ (d j : Nat) (o : List Int) (c : Int), b.length - j = d → j ≤ b.length → MulJ a b o (a.length + b.length) i j c →
      Ev (fun k => nat_Mul.l1 k b o (i : Int) (rd a (i : Int)) c a (a.length : Int) (i : Int) b (b.length : Int) (j : Int)) R := by
  intro d
  induction d with
  | zero =>
    intro j o c hd hj h
    obtain rfl : j = b.length := by omega
    have hlen := h.len
    have w1 : wrap64 ((i : Int) + (b.length : Int)) = ((i + b.length : Nat) : Int) := by unfold wrap64; omega
    have w2 : wrap64 ((i : Int) + 1) = ((i + 1 : Nat) : Int) := by unfold wrap64; omega
    refine Ev_up ?_
    unfold nat_Mul.l1
    refine Ev_neg (by omega) ?_
    rw [w1, w2, Int.toNat_natCast]
    refine Ev_pos (by omega) ?_
    refine Ev_pos (by omega) ?_
    exact hnext _ (h.done (by omega))
  | succ d ih =>
    intro j o c hd hj h
    have hlen := h.len
    have w1 : wrap64 ((i : Int) + (j : Int)) = ((i + j : Nat) : Int) := by unfold wrap64; omega
    have w2 : wrap64 ((j : Int) + 1) = ((j + 1 : Nat) : Int) := by unfold wrap64; omega
    refine Ev_up ?_
    unfold nat_Mul.l1
    refine Ev_pos (by omega) ?_
    refine Ev_pos (by omega) ?_
    refine Ev_pos (by omega) ?_
    rw [w1, w2, Int.toNat_natCast]
    refine Ev_pos (by omega) ?_
    refine Ev_pos (by omega) ?_
    rw [mul_wrap (W_rd ha _) (W_rd hb _) (W_rd h.w _) h.c0]
    exact ih (j + 1) _ _ (by omega) (by omega) (h.step hb ha (by omega) (by omega))
theorem nmul_l0 {a b : List Int} (ha : W a) (hb : W b) (hl : a.length + b.length ≤ 70368744177664) : ∀ (d i : Nat) (o : List Int), a.length - i = d → i ≤ a.length → MulI a b o (a.length + b.length) i →
    Ev (fun k => nat_Mul.l0 k b o a (a.length : Int) (i : Int)) (L (V a * V b)) := by
  intro d
  induction d with
  | zero =>
    intro i o hd hi h
    obtain rfl : i = a.length := by omega
    refine Ev_up ?_
    unfold nat_Mul.l0
    refine Ev_neg (by omega) ?_
    refine Ev_some (trim_f h.w) ?_
    refine Ev_now ?_
    rw [h.val, List.take_length]
  | succ d ih =>
    intro i o hd hi h
    refine Ev_up ?_
    unfold nat_Mul.l0
    refine Ev_pos (by omega) ?_
    refine Ev_pos (by omega) ?_
    refine Ev_pos (by omega) ?_
    exact nmul_l1 ha hb hl (by omega) _ (fun o' h' => ih (i + 1) o' (by omega) (by omega) h') _ 0 o 0 rfl (Nat.zero_le _) h.inner
theorem nmul_f {a b : List Int} (ha : W a) (hb : W b) (hl : a.length + b.length ≤ 70368744177664) : Ev (fun k => nat_Mul.f k a b) (L (V a * V b)) := by
  have la := L_len_le ha
  have lb := L_len_le hb
  have va := V_nonneg ha
  have vb := V_nonneg hb
  refine Ev_some (trim_f ha) ?_
  refine Ev_some (trim_f hb) ?_
  have w1 : wrap64 (((L (V a)).length : Int) + ((L (V b)).length : Int)) = (((L (V a)).length + (L (V b)).length : Nat) : Int) := by unfold wrap64; omega
  rw [w1, Int.toNat_natCast]
  refine Ev_pos (by omega) ?_
  refine Ev_pos (by omega) ?_
  have := nmul_l0 (W_L (V a)) (W_L (V b)) (by omega) _ 0 _ rfl (Nat.zero_le _) (MulI.start _ _ _)
  rw [V_L va, V_L vb] at this
  exact this
theorem rmul_l1 {a b : List Int} (ha : W a) (hb : W b) (hl : a.length + b.length < 35184372088830) {i : Nat} (hi : i < a.length) (R : List Int)
    (hnext : ∀ o, MulI a b o (a.length + b.length + 1) (i + 1) → Ev (fun k => penumbraref01_Mul.l0 k a b o ((i + 1 : Nat) : Int)) R) :
    ∀ (d j : Nat) (o : List Int) (c : Int), b.length - j = d → j ≤ b.length → MulJ a b o (a.length + b.length + 1) i j c →
      Ev (fun k => penumbraref01_Mul.l1 k a b o (i : Int) c (j : Int)) R := by
  intro d
  induction d with
  | zero =>
    intro j o c hd hj h
    obtain rfl : j = b.length := by omega
    have hlen := h.len
    have w1 : wrap64 ((i : Int) + (b.length : Int)) = ((i + b.length : Nat) : Int) := by unfold wrap64; omega
    have w2 : wrap64 ((i : Int) + 1) = ((i + 1 : Nat) : Int) := by unfold wrap64; omega
    refine Ev_up ?_
    unfold penumbraref01_Mul.l1
    refine Ev_neg (by omega) ?_
    rw [w1, w2, Int.toNat_natCast]
    refine Ev_pos (by omega) ?_
    refine Ev_pos (by omega) ?_
    exact hnext _ (h.done (by omega))
  | succ d ih =>
    intro j o c hd hj h
    have hlen := h.len
    have w1 : wrap64 ((i : Int) + (j : Int)) = ((i + j : Nat) : Int) := by unfold wrap64; omega
    have w2 : wrap64 ((j : Int) + 1) = ((j + 1 : Nat) : Int) := by unfold wrap64; omega
    refine Ev_up ?_
    unfold penumbraref01_Mul.l1
    refine Ev_pos (by omega) ?_
    refine Ev_pos (by omega) ?_
    refine Ev_pos (by omega) ?_
    refine Ev_pos (by omega) ?_
    rw [w1, w2, Int.toNat_natCast]
    refine Ev_pos (by omega) ?_
    refine Ev_pos (by omega) ?_
    have e := mul_wrap' (W_rd ha (i : Int)) (W_rd hb (j : Int)) (W_rd h.w ((i + j : Nat) : Int)) h.c0
    rw [e.1, e.2]
    exact ih (j + 1) _ _ (by omega) (by omega) (h.step hb ha (by omega) (by omega))
theorem rmul_l0 {a b : List Int} (ha : W a) (hb : W b) (hl : a.length + b.length < 35184372088830) : ∀ (d i : Nat) (o : List Int), a.length - i = d → i ≤ a.length → MulI a b o (a.length + b.length + 1) i →
    Ev (fun k => penumbraref01_Mul.l0 k a b o (i : Int)) (L (V a * V b)) := by
  intro d
  induction d with
  | zero =>
    intro i o hd hi h
    obtain rfl : i = a.length := by omega
    have hlen := h.len
    refine Ev_up ?_
    unfold penumbraref01_Mul.l0
    refine Ev_neg (by omega) ?_
    refine Ev.bind (rnorm_f h.w (by omega)) ?_
    refine Ev_now ?_
    rw [h.val, List.take_length]
  | succ d ih =>
    intro i o hd hi h
    refine Ev_up ?_
    unfold penumbraref01_Mul.l0
    refine Ev_pos (by omega) ?_
    exact rmul_l1 ha hb hl (by omega) _ (fun o' h' => ih (i + 1) o' (by omega) (by omega) h') _ 0 o 0 rfl (Nat.zero_le _) h.inner
theorem rmul_f {a b : List Int} (ha : W a) (hb : W b) (hl : a.length + b.length < 35184372088830) : Ev (fun k => penumbraref01_Mul.f k a b) (L (V a * V b)) := by
  have w0 : wrap64 ((a.length : Int) + (b.length : Int)) = ((a.length + b.length : Nat) : Int) := by unfold wrap64; omega
  have w1 : wrap64 (((a.length + b.length : Nat) : Int) + 1) = ((a.length + b.length + 1 : Nat) : Int) := by unfold wrap64; omega
  unfold penumbraref01_Mul.f
  rw [w0, w1, Int.toNat_natCast]
  refine Ev_pos (by omega) ?_
  refine Ev_pos (by omega) ?_
  exact rmul_l0 ha hb hl _ 0 _ rfl (Nat.zero_le _) (MulI.start _ _ _)
end Go.Proofs.Ytplioajciapojaa.N
