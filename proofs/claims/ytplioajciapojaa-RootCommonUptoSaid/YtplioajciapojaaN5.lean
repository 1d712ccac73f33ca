/- What shifting up and doubling come to: by values. -/
import Derived.Test.YtplioajciapojaaPqd
import Derived.Test.YtplioajciapojaaN3
import Derived.Test.YtplioajciapojaaN4
import Derived.Laws.BitsLemmas
namespace Go.Proofs.Ytplioajciapojaa.N
set_option linter.unusedVariables false
set_option linter.unusedSimpArgs false
open Go Go.RowKit Go.Proofs.YtplioajciapojaaW.PrintWords Go.Proofs.YtplioajciapojaaW.PrintLast Go.Proofs.YtplioajciapojaaW.PrintMore Go.Proofs.Ytplioajciapojaa.Pq

/-- what Shl answers -/
def shS (x s : Int) : List Int × Bool := if s < 0 then ([], false) else if s > 65536 then ([], false) else (L (x * 2 ^ s.toNat), true)
theorem u32_wrap (x : Int) : IntKind.u32.wrap x = x % 4294967296 := by
  simp only [IntKind.wrap, IntKind.bits, IntKind.signed]
  simp
theorem shl_limb {r : Nat} (hr : r < 32) {x c : Int} (hx : 0 ≤ x ∧ x < 4294967296) (hc : 0 ≤ c ∧ c < 2 ^ r) :
    Go.bits .or .u32 (shl .u32 x (r : Int)) c = x * 2 ^ r % 4294967296 + c ∧ shr .u64 (IntKind.u64.wrap x) (32 - (r : Int)) % 4294967296 = x * 2 ^ r / 4294967296 ∧
      0 ≤ x * 2 ^ r % 4294967296 + c ∧ x * 2 ^ r % 4294967296 + c < 4294967296 ∧ 0 ≤ x * 2 ^ r / 4294967296 ∧ x * 2 ^ r / 4294967296 < 2 ^ r := by
  have hT : (0 : Int) < 2 ^ r := Int.pow_pos (by decide)
  have hU : (0 : Int) < 2 ^ (32 - r) := Int.pow_pos (by decide)
  have hTU : (2 : Int) ^ r * 2 ^ (32 - r) = 4294967296 := by rw [← Int.pow_add, show r + (32 - r) = 32 by omega]; rfl
  have e1 : shl .u32 x (r : Int) = x * 2 ^ r % 4294967296 := by
    unfold shl
    rw [u32_wrap, Int.toNat_natCast, Nat.min_eq_left (show r ≤ IntKind.u32.bits by show r ≤ 32; omega)]
  have e2 : shr .u64 (IntKind.u64.wrap x) (32 - (r : Int)) = x / 2 ^ (32 - r) := by
    unfold shr
    rw [wrap_u64_of hx.1 (by omega), show (32 - (r : Int)).toNat = 32 - r by omega, Nat.min_eq_left (show 32 - r ≤ IntKind.u64.bits by show 32 - r ≤ 64; omega)]
  have key : x * 2 ^ r % 4294967296 % 2 ^ r = 0 := by
    rw [← hTU, Int.emod_emod_of_dvd _ (Int.dvd_mul_right _ _)]
    exact Int.mul_emod_left _ _
  have hTle : (2 : Int) ^ r ≤ 4294967296 := by
    have : (2 : Int) ^ r * 1 ≤ 2 ^ r * 2 ^ (32 - r) := Int.mul_le_mul_of_nonneg_left (by omega) (by omega)
    rw [hTU] at this
    omega
  have jo : ∀ y : Int, 0 ≤ y → y % 2 ^ r = 0 → y < 4294967296 → Go.bits .or .u32 y c = y + c := fun y h0 h1 h2 =>
    bits_join .u32 32 (Nat.le_refl _) (fun n h0 h1 => by rw [u32_wrap]; omega) r y c h0 h1 (by omega) hc.1 hc.2 (by omega)
  rw [e1, e2, jo _ (by omega) key (by omega)]
  clear jo e1 e2
  generalize (2 : Int) ^ r = T at *
  generalize (2 : Int) ^ (32 - r) = U at *
  have m1 : x * T % 4294967296 = T * (x % U) := by rw [← hTU, Int.mul_comm x T, Int.mul_emod_mul_of_pos _ _ hT]
  have d1 : x * T / 4294967296 = x / U := by rw [← hTU, Int.mul_comm x T, Int.mul_ediv_mul_of_pos _ _ hT]
  have xu0 := Int.emod_nonneg x (show U ≠ 0 by omega)
  have xu1 := Int.emod_lt_of_pos x hU
  have xd0 : 0 ≤ x / U := Int.ediv_nonneg hx.1 (by omega)
  have xd1 : x / U < T := Int.ediv_lt_of_lt_mul hU (by rw [hTU]; exact hx.2)
  have p0 : 0 ≤ T * (x % U) := Int.mul_nonneg (by omega) xu0
  have p1 : T * (x % U + 1) ≤ T * U := Int.mul_le_mul_of_nonneg_left (by omega) (by omega)
  rw [Int.mul_add, hTU] at p1
  rw [m1, d1]
  clear m1 d1 key
  refine ⟨rfl, ?_, by omega, by omega, xd0, xd1⟩
  rw [Int.emod_eq_of_lt xd0 (by omega)]

/-! ### shifting up -/
theorem shl_step {r : Nat} (hr : r < 32) {x c : Int} (hx : 0 ≤ x ∧ x < 4294967296) (hc : 0 ≤ c ∧ c < 2 ^ r) :
    ∃ dg cy, Go.bits .or .u32 (shl .u32 x (r : Int)) c = dg ∧ shr .u64 (IntKind.u64.wrap x) (32 - (r : Int)) % 4294967296 = cy ∧ 0 ≤ dg ∧ dg < 4294967296 ∧ 0 ≤ cy ∧ cy < 2 ^ r ∧ dg + 4294967296 * cy = x * 2 ^ r + c := by
  obtain ⟨e1, e2, b1, b2, b3, b4⟩ := shl_limb hr hx hc
  have e := Int.emod_add_mul_ediv (x * 2 ^ r) 4294967296
  refine ⟨_, _, e1, e2, b1, b2, b3, b4, ?_⟩
  clear e1 e2 b1 b2 b3 b4 hc hx
  generalize x * 2 ^ r = X at *
  omega
theorem two_pow_le' : ∀ r : Fin 32, (2 : Int) ^ r.val ≤ 4294967296 := by decide +kernel
theorem two_pow_le {r : Nat} (hr : r < 32) : (2 : Int) ^ r ≤ 4294967296 := two_pow_le' ⟨r, hr⟩
theorem nshl_l {t : List Int} (ht : W t) {s : Int} {q r : Nat} {T : Int} (hTB : T ≤ 4294967296) (hr : r < 32) (hs : Aside0 (Int.tmod s 32 = (r : Int))) (hl : q + t.length < 35184372088832)
    (step : ∀ x c : Int, 0 ≤ x ∧ x < 4294967296 → 0 ≤ c ∧ c < T → ∃ dg cy, Go.bits .or .u32 (shl .u32 x (r : Int)) c = dg ∧ shr .u64 (IntKind.u64.wrap x) (32 - (r : Int)) % 4294967296 = cy ∧ 0 ≤ dg ∧ dg < 4294967296 ∧ 0 ≤ cy ∧ cy < T ∧ dg + 4294967296 * cy = x * T + c) :
    ∀ (d i : Nat) (o : List Int) (c : Int), t.length - i = d → i ≤ t.length → W o → o.length = q + i → 0 ≤ c ∧ c < T →
      Aside0 (V o + P (q + i) * c = P q * (T * V (t.take i))) → Ev (fun k => nat_Shl.l0 k s o c t (t.length : Int) (i : Int)) (L (P q * (T * V t)), true) := by
  intro d
  induction d with
  | zero =>
    intro i o c hd hi hw ho hc HV
    obtain rfl : i = t.length := by omega
    refine Ev_up ?_
    unfold nat_Shl.l0
    refine Ev_neg (by omega) ?_
    refine Ev_pos (by omega) ?_
    refine Ev_some (trim_f (W_append hw (W_one hc.1 (by omega)))) ?_
    refine Ev_now ?_
    have hv := HV.out
    rw [List.take_length] at hv
    rw [V_snoc, ho, hv]
  | succ d ih =>
    intro i o c hd hi hw ho hc HV
    have w1 : wrap64 ((i : Int) + 1) = ((i + 1 : Nat) : Int) := by unfold wrap64; omega
    have w2 : wrap64 (32 - (r : Int)) = 32 - (r : Int) := by unfold wrap64; omega
    have rt := W_rd ht (i : Int)
    obtain ⟨dg, cy, e1, e2, b1, b2, b3, b4, hs0⟩ := step _ c rt hc
    have HS := Aside0.mk hs0
    clear hs0
    have key : Aside0 (V (o ++ [dg]) + P (q + (i + 1)) * cy = P q * (T * V (t.take (i + 1)))) := ⟨by
      have hv := HV.out
      have hs1 := HS.out
      rw [V_snoc, ho, V_take_succ' t i, show q + (i + 1) = q + i + 1 by omega, P_succ, P_add]
      rw [P_add] at hv
      clear e1 e2 ih
      grind⟩
    have hrec := ih (i + 1) (o ++ [dg]) cy (by omega) (by omega) (W_append hw (W_one b1 b2)) (by simp [ho]; omega) ⟨b3, b4⟩ key
    refine Ev_up ?_
    unfold nat_Shl.l0
    refine Ev_pos (by omega) ?_
    refine Ev_pos (by omega) ?_
    refine Ev_pos (by omega) ?_
    rw [hs.out, w1, w2, e1, e2]
    refine Ev_pos (by omega) ?_
    refine Ev_pos (by omega) ?_
    refine Ev_pos (by omega) ?_
    exact hrec
theorem two_pow_split {s : Int} {q r : Nat} (h : s = 32 * (q : Int) + (r : Int)) : (2 : Int) ^ s.toNat = P q * 2 ^ r := by
  rw [show s.toNat = 32 * q + r by omega, Int.pow_add, P_pow]
theorem nshl_f {a : List Int} (ha : W a) (sa : a.length < 35184370000000) (s : Int) : Ev (fun k => nat_Shl.f k a s) (shS (V a) s) := by
  have la := L_len_le ha
  have va := V_nonneg ha
  unfold shS
  by_cases h0 : s < 0
  · rw [if_pos h0]
    refine Ev_pos h0 ?_
    refine Ev_up ?_
    unfold nat_Shl.j0
    refine Ev_pos rfl ?_
    exact Ev.now _
  · rw [if_neg h0]
    refine Ev_neg h0 ?_
    refine Ev_up ?_
    unfold nat_Shl.j0
    by_cases h1 : s > 65536
    · rw [if_pos h1, decide_eq_true h1]
      refine Ev_pos rfl ?_
      exact Ev.now _
    · rw [if_neg h1, decide_eq_false h1]
      refine Ev_neg (by decide) ?_
      have e1 : Int.tdiv s 32 = s / 32 := Int.tdiv_eq_ediv_of_nonneg (by omega)
      have e2 : Aside0 (Int.tmod s 32 = ((s % 32).toNat : Int)) := ⟨by rw [Int.tmod_eq_emod_of_nonneg (by omega)]; omega⟩
      have w1 : wrap64 (Int.tdiv s 32) = ((s / 32).toNat : Int) := by rw [e1]; clear e1; unfold wrap64; omega
      clear e1
      rw [w1, Int.toNat_natCast]
      refine Ev_pos (by omega) ?_
      refine Ev_pos (by omega) ?_
      refine Ev_some (trim_f ha) ?_
      have h := nshl_l (W_L (V a)) (s := s) (q := (s / 32).toNat) (r := (s % 32).toNat) (two_pow_le (by omega)) (by omega) e2 (by omega) (fun x c hx hc => shl_step (by omega) hx hc) _ 0 (List.replicate (s / 32).toNat 0) 0 rfl (Nat.zero_le _) (W_replicate _) (by simp) ⟨by omega, Int.pow_pos (by decide)⟩ ⟨by simp [V_replicate, V_nil]⟩
      refine Ev_eq h ?_
      rw [V_L va, two_pow_split (s := s) (q := (s / 32).toNat) (r := (s % 32).toNat) (by omega), Int.mul_comm (V a), Int.mul_assoc]

/-! ### doubling -/
theorem rdouble_l {x : List Int} (hx : W x) (hl : x.length < 35184372088830) (c0 : Int) : ∀ (d i : Nat) (p : List Int) (c : Int), x.length - i = d → i ≤ x.length → W p → p.length = i → 0 ≤ c ∧ c ≤ 1 →
    V p + P i * c = 2 * V (x.take i) + c0 → Ev (fun k => penumbraref01_Double.l0 k x p c (i : Int)) (L (2 * V x + c0)) := by
  intro d
  induction d with
  | zero =>
    intro i p c hd hi hp hpl hc hv
    obtain rfl : i = x.length := by omega
    rw [List.take_length] at hv
    refine Ev_up ?_
    unfold penumbraref01_Double.l0
    refine Ev_neg (by omega) ?_
    refine Ev_pos (by omega) ?_
    rw [show c % 4294967296 = c by omega]
    refine Ev.bind (rnorm_f (W_append hp (W_one hc.1 (by omega))) (by simp; omega)) ?_
    refine Ev_now ?_
    rw [V_snoc, hpl, hv]
  | succ d ih =>
    intro i p c hd hi hp hpl hc hv
    have HV := Aside0.mk hv
    clear hv
    have w1 : wrap64 ((i : Int) + 1) = ((i + 1 : Nat) : Int) := by unfold wrap64; omega
    have rx := W_rd hx (i : Int)
    have key : Aside0 (V (p ++ [(2 * rd x (i : Int) + c) % 4294967296]) + P (i + 1) * ((2 * rd x (i : Int) + c) / 4294967296) = 2 * V (x.take (i + 1)) + c0) := ⟨by
      have hv := HV.out
      have e := Int.emod_add_mul_ediv (2 * rd x (i : Int) + c) 4294967296
      rw [V_snoc, hpl, V_take_succ' x i, P_succ]
      grind⟩
    have hrec := ih (i + 1) _ _ (by omega) (by omega) (W_append hp (W_one (by omega) (by omega))) (by simp [hpl]) (by omega) key.out
    refine Ev_up ?_
    unfold penumbraref01_Double.l0
    refine Ev_pos (by omega) ?_
    refine Ev_pos (by omega) ?_
    refine Ev_pos (by omega) ?_
    have w2 : IntKind.u64.wrap (IntKind.u64.wrap (2 * IntKind.u64.wrap (rd x (i : Int))) + c) = 2 * rd x (i : Int) + c := by
      rw [wrap_u64_of (x := rd x (i : Int)) (by omega) (by omega), wrap_u64_of (x := 2 * rd x (i : Int)) (by omega) (by omega), wrap_u64_of (by omega) (by omega)]
    rw [w2, w1, Int.tmod_eq_emod_of_nonneg (by omega), Int.tdiv_eq_ediv_of_nonneg (by omega), wrap_u64_of (by omega) (by omega), Int.emod_emod]
    exact hrec
theorem Nm.double {x : List Int} {n : Nat} {v : Int} (h : Nm x n v) (hn : n < 35184372088830) (b : Bool) : Ev (fun k => penumbraref01_Double.f k x b) (N.L (2 * v + if b then 1 else 0)) := by
  have hle := h.le
  refine Ev_some rfl ?_
  cases b with
  | true =>
    refine Ev_pos rfl ?_
    refine Ev_up ?_
    unfold penumbraref01_Double.j0
    have e := rdouble_l h.w (by omega) 1 _ 0 [] 1 rfl (Nat.zero_le _) W_nil rfl (by omega) (by simp [V_nil, P_zero])
    rw [h.v] at e
    exact e
  | false =>
    refine Ev_neg (by decide) ?_
    refine Ev_up ?_
    unfold penumbraref01_Double.j0
    have e := rdouble_l h.w (by omega) 0 _ 0 [] 0 rfl (Nat.zero_le _) W_nil rfl (by omega) (by simp [V_nil])
    rw [h.v] at e
    exact e
theorem Nm.doubleL {n : Nat} {x : List Int} {v : Int} (h : Nm x n v) : Nm (N.L (2 * v)) (n + 1) (2 * v) := by
  have h0 := h.pos
  have h1 := h.lt
  exact Nm.L (by omega) (by rw [P_succ]; omega)
theorem rshl_l {s : Int} {r : Nat} (hr : r < 32) (hs : Aside0 (Int.tmod s 32 = (r : Int))) {n : Nat} (hn : n < 35184370000000) : ∀ (d i : Nat) (y : List Int) (v : Int), r - i = d → i ≤ r → Nm y (n + i) v →
    Ev (fun k => penumbraref01_Shl.l0 k s y (i : Int)) (L (v * 2 ^ (r - i)), true) := by
  intro d
  induction d with
  | zero =>
    intro i y v hd hi h
    obtain rfl : i = r := by omega
    have hle := h.le
    refine Ev_up ?_
    unfold penumbraref01_Shl.l0
    rw [hs.out]
    refine Ev_neg (by omega) ?_
    refine Ev.bind (rnorm_f h.w (by omega)) ?_
    refine Ev_now ?_
    rw [h.v, Nat.sub_self]
    simp
  | succ d ih =>
    intro i y v hd hi h
    have w1 : wrap64 ((i : Int) + 1) = ((i + 1 : Nat) : Int) := by unfold wrap64; omega
    refine Ev_up ?_
    unfold penumbraref01_Shl.l0
    rw [hs.out, w1]
    refine Ev_pos (by omega) ?_
    refine Ev.bind (h.double (by omega) false) ?_
    have e := ih (i + 1) _ _ (by omega) (by omega) h.doubleL
    simp only [Bool.false_eq_true, if_false, Int.add_zero]
    refine Ev_eq e ?_
    rw [show r - i = r - (i + 1) + 1 by omega, Int.pow_succ]
    congr 2
    grind
theorem rshl_f {a : List Int} (ha : W a) (sa : a.length < 35184360000000) (s : Int) : Ev (fun k => penumbraref01_Shl.f k a s) (shS (V a) s) := by
  have va := V_nonneg ha
  unfold shS
  by_cases h0 : s < 0
  · rw [if_pos h0]
    refine Ev_pos h0 ?_
    refine Ev_up ?_
    unfold penumbraref01_Shl.j0
    refine Ev_pos rfl ?_
    exact Ev.now _
  · rw [if_neg h0]
    refine Ev_neg h0 ?_
    refine Ev_up ?_
    unfold penumbraref01_Shl.j0
    by_cases h1 : s > 65536
    · rw [if_pos h1, decide_eq_true h1]
      refine Ev_pos rfl ?_
      exact Ev.now _
    · rw [if_neg h1, decide_eq_false h1]
      refine Ev_neg (by decide) ?_
      have e1 : Int.tdiv s 32 = s / 32 := Int.tdiv_eq_ediv_of_nonneg (by omega)
      have e2 : Aside0 (Int.tmod s 32 = ((s % 32).toNat : Int)) := ⟨by rw [Int.tmod_eq_emod_of_nonneg (by omega)]; omega⟩
      have w1 : wrap64 (Int.tdiv s 32) = ((s / 32).toNat : Int) := by rw [e1]; clear e1; unfold wrap64; omega
      clear e1
      rw [w1, Int.toNat_natCast]
      refine Ev_pos (by omega) ?_
      refine Ev_pos (by omega) ?_
      refine Ev_some rfl ?_
      refine Ev_pos (by simp; omega) ?_
      have hm : Nm (List.replicate (s / 32).toNat 0 ++ a) ((s / 32).toNat + a.length + 0) (P (s / 32).toNat * V a) := ⟨W_append (W_replicate _) ha, by rw [V_append, V_replicate, List.length_replicate]; omega, by simp⟩
      refine Ev_eq (rshl_l (s := s) (r := (s % 32).toNat) (by omega) e2 (by omega) _ 0 _ _ rfl (Nat.zero_le _) hm) ?_
      rw [Nat.sub_zero, two_pow_split (s := s) (q := (s / 32).toNat) (r := (s % 32).toNat) (by omega), Int.mul_comm (V a), Int.mul_right_comm]
end Go.Proofs.Ytplioajciapojaa.N
