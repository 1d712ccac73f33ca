/- The reference's division: guesses that are surely not too great, after a shift; then the rest is halved back. By values. -/
import Derived.Test.YtplioajciapojaaPqd
import Derived.Test.YtplioajciapojaaN12
namespace Go.Proofs.Ytplioajciapojaa.N
set_option linter.unusedVariables false
set_option linter.unusedSimpArgs false
open Go Go.RowKit Go.Proofs.YtplioajciapojaaW.PrintWords Go.Proofs.YtplioajciapojaaW.PrintLast Go.Proofs.YtplioajciapojaaW.PrintMore Go.Proofs.Ytplioajciapojaa.Pq

/-! ### halved -/
theorem half_limb {lo hi Y Z X : Int} (h : X = lo + 4294967296 * Y) (hY : Y = hi + 4294967296 * Z) : X / 2 = (hi % 2 * 4294967296 + lo) / 2 + 4294967296 * (Y / 2) := by omega
theorem half_word {h lo : Int} (hh : 0 ≤ h ∧ h < 4294967296) (hl : 0 ≤ lo ∧ lo < 4294967296) :
    (IntKind.u64.wrap (Int.tdiv (IntKind.u64.wrap ((IntKind.u64.wrap ((Int.tmod h 2) * 4294967296)) + (IntKind.u64.wrap lo))) 2)) % 4294967296 = (h % 2 * 4294967296 + lo) / 2 := by
  rw [Int.tmod_eq_emod_of_nonneg hh.1, wrap_u64_of (x := h % 2 * 4294967296) (by omega) (by omega), wrap_u64_of (x := lo) (by omega) (by omega), wrap_u64_of (x := h % 2 * 4294967296 + lo) (by omega) (by omega),
    Int.tdiv_eq_ediv_of_nonneg (by omega), wrap_u64_of (by omega) (by omega)]
  omega
theorem rhalf_l {l : List Int} (hl : W l) (hn : l.length < 35184372087809) : ∀ (d i : Nat) (p : List Int), l.length - i = d → i ≤ l.length → W p → p.length = i →
    Aside0 (V p + P i * (V (l.drop i) / 2) = V l / 2) → Ev (fun k => penumbraref01_Half.l0 k l p (i : Int)) (L (V l / 2)) := by
  intro d
  induction d with
  | zero =>
    intro i p hd hi hw hp HV
    obtain rfl : i = l.length := by omega
    have hv := HV.out
    rw [List.drop_length, V_nil, Int.zero_ediv, Int.mul_zero, Int.add_zero] at hv
    refine Ev_up ?_
    unfold penumbraref01_Half.l0
    refine Ev_neg (by omega) ?_
    refine Ev.bind (rnorm_f hw (by omega)) ?_
    refine Ev_now ?_
    rw [hv]
  | succ d ih =>
    intro i p hd hi hw hp HV
    have w1 : wrap64 ((i : Int) + 1) = ((i + 1 : Nat) : Int) := by unfold wrap64; omega
    have rl := W_rd hl (i : Int)
    have rh := W_rd hl ((i + 1 : Nat) : Int)
    have SL := Aside0.mk (half_limb (V_drop l i) (V_drop l (i + 1)))
    have c1 : (i : Int) < (l.length : Int) := by omega
    have c2 : p.length < 35184372088832 := by omega
    have c3 : 0 ≤ (rd l ((i + 1 : Nat) : Int) % 2 * 4294967296 + rd l (i : Int)) / 2 := by omega
    have c4 : (rd l ((i + 1 : Nat) : Int) % 2 * 4294967296 + rd l (i : Int)) / 2 < 4294967296 := by omega
    have hrec := ih (i + 1) (p ++ [(rd l ((i + 1 : Nat) : Int) % 2 * 4294967296 + rd l (i : Int)) / 2]) (by omega) (by omega) (W_append hw (W_one c3 c4)) (by simp [hp]) ⟨by
      have hv := HV.out
      rw [SL.out] at hv
      rw [V_snoc, hp, P_succ]
      clear ih
      grind⟩
    refine Ev_up ?_
    unfold penumbraref01_Half.l0
    rw [w1]
    refine Ev_pos c1 ?_
    refine Ev_some (limb_f hl (i + 1)) ?_
    refine Ev_pos (Int.natCast_nonneg _) ?_
    refine Ev_pos c2 ?_
    rw [half_word rh rl]
    exact hrec
theorem Nm.half {l : List Int} {n : Nat} {x : Int} (h : Nm l n x) (hn : n < 35184372087809) : Ev (fun k => penumbraref01_Half.f k l) (N.L (x / 2)) := by
  have h1 := h.le
  have e := rhalf_l h.w (by omega) _ 0 [] rfl (Nat.zero_le _) W_nil rfl ⟨by rw [V_nil, P_zero, List.drop_zero]; omega⟩
  rw [h.v] at e
  exact e
theorem Nm.radd {a b : List Int} {m n : Nat} {x y : Int} (h : Nm a m x) (k : Nm b n y) (hm : m < 35184372087809) (hn : n < 35184372087809) : Ev (fun r => penumbraref01_Add.f r a b) (N.L (x + y)) := by
  have h1 := h.le
  have h2 := k.le
  have e := radd_f h.w k.w (by unfold Sm; omega) (by unfold Sm; omega)
  rwa [h.v, k.v] at e
theorem Nm.rsub {a b : List Int} {m n : Nat} {x y : Int} (h : Nm a m x) (k : Nm b n y) (hm : m < 35184372087809) (hn : n < 35184372087809) : Ev (fun r => penumbraref01_Sub.f r a b) (subS x y) := by
  have h1 := h.le
  have h2 := k.le
  have e := rsub_f h.w k.w (by unfold Sm; omega) (by unfold Sm; omega)
  rwa [h.v, k.v] at e
theorem Nm.rcmp {a b : List Int} {m n : Nat} {x y : Int} (h : Nm a m x) (k : Nm b n y) (hm : m < 35184372087809) (hn : n < 35184372087809) : Ev (fun r => penumbraref01_Cmp.f r a b) (cm x y) := by
  have h1 := h.le
  have h2 := k.le
  have e := rcmp_f h.w k.w (by unfold Sm; omega) (by unfold Sm; omega)
  rwa [h.v, k.v] at e
theorem Nm.rnrm {a : List Int} {m : Nat} {x : Int} (h : Nm a m x) (hm : m < 35184372087809) : Ev (fun r => penumbraref01_Norm.f r a) (N.L x) := by
  have h1 := h.le
  have e := rnorm_f h.w (by omega)
  rwa [h.v] at e
/-- the limbs above none: a list of the value 0 -/
theorem Nm.zero : Nm (N.L 0) 0 0 := by rw [L_zero]; exact Nm.nil
theorem cm_zero_iff {x y : Int} : cm x y = 0 ↔ x = y := by
  unfold cm
  by_cases h1 : x < y
  · rw [if_pos h1]; omega
  · rw [if_neg h1]
    by_cases h2 : y < x
    · rw [if_pos h2]; omega
    · rw [if_neg h2]; omega
theorem Nm.rzero {a : List Int} {m : Nat} {x : Int} (h : Nm a m x) (hm : m < 35184372087809) : Ev (fun r => penumbraref01_Zero.f r a) (decide (x = 0)) := by
  refine Ev.bind (h.rcmp Nm.nil hm (by decide)) ?_
  refine Ev_now ?_
  congr 1
  rw [Bool.eq_iff_iff]
  simp [cm_zero_iff]

/-! ### the guesses -/
theorem top_le {r : Int} (h0 : 0 ≤ r) {e : Nat} (he : (L r).length = e + 1) : rd (L r) (e : Int) * P e ≤ r ∧ r < (rd (L r) (e : Int) + 1) * P e := by
  have h1 := V_split' (L r) e
  have h2 := V_nonneg (W_take (W_L r) e)
  have h3 := V_take_lt (W_L r) e
  rw [V_drop (L r) e, List.drop_of_length_le (by omega), V_nil, V_L h0, Int.mul_zero, Int.add_zero, Int.mul_comm (P e)] at h1
  rw [Int.add_mul, Int.one_mul]
  omega
theorem top2_le {r : Int} (h0 : 0 ≤ r) {e : Nat} (he : (L r).length = e + 2) : (rd (L r) ((e + 1 : Nat) : Int) * 4294967296 + rd (L r) (e : Int)) * P e ≤ r := by
  have h1 := V_split' (L r) e
  have h2 := V_nonneg (W_take (W_L r) e)
  rw [V_drop (L r) e, V_drop (L r) (e + 1), List.drop_of_length_le (by omega), V_nil, V_L h0, Int.mul_zero, Int.add_zero, Int.mul_comm (P e), Int.add_comm (rd (L r) (e : Int)), Int.mul_comm 4294967296] at h1
  omega
theorem guess_le {a tp t d r : Int} {pl f e : Nat} (he : pl + f = e) (ht0 : 0 ≤ t) (ht : t * tp ≤ a) (hd : d ≤ tp * P f) (hr : a * P e ≤ r) : t * P pl * d ≤ r := by
  subst he
  have h1 : t * P pl * d ≤ t * P pl * (tp * P f) := Int.mul_le_mul_of_nonneg_left hd (Int.mul_nonneg ht0 (Int.le_of_lt (P_pos _)))
  have h2 : t * tp * P (pl + f) ≤ a * P (pl + f) := Int.mul_le_mul_of_nonneg_right ht (Int.le_of_lt (P_pos _))
  have h3 : t * P pl * (tp * P f) = t * tp * P (pl + f) := by rw [P_add]; grind
  rw [h3] at h1
  exact Int.le_trans h1 (Int.le_trans h2 hr)
theorem at_f {t : Int} (h0 : 0 ≤ t) (h1 : t < 18446744073709551616) {pl : Nat} (hp : pl < 35184372088000) : ∃ s, penumbraref01_at.f t (pl : Int) = some s ∧ Nm s (pl + 2) (t * P pl) := by
  refine ⟨List.replicate pl 0 ++ [t % 4294967296, t / 4294967296], ?_, ?_, ?_, ?_⟩
  · unfold penumbraref01_at.f
    rw [if_pos (Int.natCast_nonneg _), Int.toNat_natCast, if_pos (by omega), Option.bind_some, Option.bind_some, Int.tmod_eq_emod_of_nonneg h0, Int.tdiv_eq_ediv_of_nonneg h0, wrap_u64_of (x := t / 4294967296) (by omega) (by omega),
      Int.emod_emod, show t / 4294967296 % 4294967296 = t / 4294967296 by omega, if_pos (by simp; omega)]
  · exact W_append (W_replicate _) (W_cons.2 ⟨by omega, W_one (by omega) (by omega)⟩)
  · rw [V_append, V_replicate, List.length_replicate, V_cons, V_one, Int.zero_add, Int.mul_comm]
    congr 1
    omega
  · simp
/-- one round: the guess is taken away -/
theorem rdm_j4 {d tp r q t : Int} {f N T pl : Nat} (hN : N < 17592186040000) (hpl : pl ≤ N) (hd : 0 < d) (hdr : d ≤ r) (hr : r < P N) (hq : 0 ≤ q) (hqN : q < P N) (ht0 : 0 ≤ t) (ht : t < 18446744073709551616) (hle : t * P pl * d ≤ r) (R : List Int × List Int × Bool)
    (next : Ev (fun k => penumbraref01_DivMod.l1 k (L d) (L (r - t * P pl * d)) (T : Int) (L (q + t * P pl)) ((f + 1 : Nat) : Int) tp) R) :
    Ev (fun k => penumbraref01_DivMod.j4 k (L d) (L r) (T : Int) (L q) ((f + 1 : Nat) : Int) tp (pl : Int) t) R := by
  obtain ⟨s, es, hs⟩ := at_f ht0 ht (pl := pl) (by omega)
  have r0 : 0 ≤ r := by omega
  have nq := Nm.L hq hqN
  have nd : Nm (L d) N d := Nm.L (by omega) (by omega)
  have nr := Nm.L r0 hr
  have g0 : 0 ≤ t * P pl * d := Int.mul_nonneg (Int.mul_nonneg ht0 (Int.le_of_lt (P_pos _))) (by omega)
  have ng : Nm (L (t * P pl * d)) N (t * P pl * d) := Nm.L g0 (by omega)
  refine Ev_up ?_
  unfold penumbraref01_DivMod.j4
  refine Ev_some es ?_
  refine Ev.bind (nq.radd hs (by omega) (by omega)) ?_
  refine Ev.bind (hs.rmul nd (by omega)) ?_
  refine Ev.bind (nr.rsub ng (by omega) (by omega)) ?_
  rw [show subS r (t * P pl * d) = (L (r - t * P pl * d), true) from if_neg (by omega)]
  exact next
theorem tops {a1 a2 tp : Int} (h1 : 0 < a1 ∧ a1 < 4294967296) (h2 : 0 ≤ a2 ∧ a2 < 4294967296) (h3 : 0 < tp ∧ tp ≤ 4294967296) :
    IntKind.u64.wrap (Int.tdiv (IntKind.u64.wrap (IntKind.u64.wrap (IntKind.u64.wrap a1 * 4294967296) + IntKind.u64.wrap a2)) tp) = (a1 * 4294967296 + a2) / tp ∧ 0 < (a1 * 4294967296 + a2) / tp ∧ (a1 * 4294967296 + a2) / tp < 18446744073709551616 := by
  have b1 : (a1 * 4294967296 + a2) / tp ≤ a1 * 4294967296 + a2 := Int.ediv_le_self _ (by omega)
  have b2 : 0 < (a1 * 4294967296 + a2) / tp := Int.le_ediv_of_mul_le h3.1 (by omega)
  refine ⟨?_, b2, by omega⟩
  rw [wrap_u64_of (x := a1) (by omega) (by omega), wrap_u64_of (x := a1 * 4294967296) (by omega) (by omega), wrap_u64_of (x := a2) (by omega) (by omega), wrap_u64_of (x := a1 * 4294967296 + a2) (by omega) (by omega), Int.tdiv_eq_ediv_of_nonneg (by omega),
    wrap_u64_of (Int.le_of_lt b2) (by omega)]
theorem top1 {a1 tp : Int} (h1 : 0 < a1 ∧ a1 < 4294967296) (h3 : 0 < tp) : IntKind.u64.wrap (Int.tdiv (IntKind.u64.wrap a1) tp) = a1 / tp ∧ 0 ≤ a1 / tp ∧ a1 / tp < 18446744073709551616 := by
  have b1 : a1 / tp ≤ a1 := Int.ediv_le_self _ (by omega)
  have b2 : 0 ≤ a1 / tp := Int.ediv_nonneg (by omega) (by omega)
  refine ⟨?_, b2, by omega⟩
  rw [wrap_u64_of (x := a1) (by omega) (by omega), Int.tdiv_eq_ediv_of_nonneg (by omega), wrap_u64_of b2 (by omega)]
theorem rdm_l1 {d : Int} (hd : 0 < d) {f : Nat} (hf : (L d).length = f + 1) (hfN : f < 17592186040000) {tp : Int} (htp : tp = rd (L d) (f : Int) + 1) {A : Int} {N : Nat} (hN : N < 17592186040000) (hA : A < P N) {T : Nat} (R : List Int × List Int × Bool)
    (next : Ev (fun k => penumbraref01_DivMod.l2 k (L (A % d)) (T : Int) (L (A / d)) 0) R) : ∀ (M : Nat) (r q : Int), r.toNat < M → 0 ≤ r → 0 ≤ q → q * d + r = A →
    Ev (fun k => penumbraref01_DivMod.l1 k (L d) (L r) (T : Int) (L q) ((f + 1 : Nat) : Int) tp) R := by
  have rt := W_rd (W_L d) (f : Int)
  have hdt := top_le (Int.le_of_lt hd) hf
  have hPd := P_le_of_length (Int.le_of_lt hd) hf
  rw [← htp] at hdt
  have htp0 : 0 < tp := by omega
  have htp1 : tp ≤ 4294967296 := by omega
  have htpn : ¬ tp = 0 := by omega
  have hdt2 := Aside0.mk (Int.le_of_lt hdt.2)
  clear hdt
  intro M
  induction M with
  | zero => intro r q h; omega
  | succ M ih =>
    intro r q hM hr hq hA'
    have hqd : 0 ≤ q * d := Int.mul_nonneg hq (by omega)
    have hqq : q * 1 ≤ q * d := Int.mul_le_mul_of_nonneg_left (by omega) hq
    have hrN : r < P N := by omega
    have hqN : q < P N := by omega
    have nr := Nm.L hr hrN
    have hrl := nr.le
    have hc := rcmp_f (a := L r) (b := L d) (W_L _) (W_L _) (by unfold Sm; omega) (by unfold Sm; omega)
    rw [V_L hr, V_L (by omega)] at hc
    refine Ev_up ?_
    unfold penumbraref01_DivMod.l1
    refine Ev.bind hc ?_
    by_cases hlt : r < d
    · rw [cm_lt hlt]
      refine Ev_neg (by decide) ?_
      have e1 : A / d = q := by rw [← hA', Int.add_comm, Int.add_mul_ediv_right _ _ (by omega), Int.ediv_eq_zero_of_lt hr hlt]; omega
      have e2 : A % d = r := by rw [← hA', Int.add_comm, Int.add_mul_emod_self_right, Int.emod_eq_of_lt hr hlt]
      rw [e1, e2] at next
      exact next
    · have hdr : d ≤ r := by omega
      have fin : ∀ (pl : Nat) (t : Int), 1 ≤ t → t < 18446744073709551616 → pl ≤ N → t * P pl * d ≤ r → Ev (fun k => penumbraref01_DivMod.j4 k (L d) (L r) (T : Int) (L q) ((f + 1 : Nat) : Int) tp (pl : Int) t) R := by
        intro pl t ht0 ht1 hpl hle
        have h1 : 1 ≤ t * P pl := Int.mul_pos (by omega) (P_pos pl)
        have h2 : 1 * d ≤ t * P pl * d := Int.mul_le_mul_of_nonneg_right h1 (by omega)
        refine rdm_j4 hN hpl hd hdr hrN hq hqN (by omega) ht1 hle R (ih _ _ (by omega) (by omega) (by omega) ?_)
        rw [Int.add_mul]
        omega
      clear ih
      have hc0 : cm r d ≥ 0 := by
        have := @cm_neg r d
        omega
      refine Ev_pos hc0 ?_
      obtain ⟨e, he, hp⟩ := rd_last (show 0 < r by omega)
      have hfe : f ≤ e := by
        have := L_length_lt (Int.le_trans hPd hdr)
        omega
      have ra := W_rd (W_L r) (e : Int)
      have ht1 := top1 ⟨hp, ra.2⟩ htp0
      have w1 : wrap64 (((L r).length : Int) - 1) = (e : Int) := by unfold wrap64; omega
      have w2 : wrap64 (((L r).length : Int) - ((f + 1 : Nat) : Int)) = ((e - f : Nat) : Int) := by unfold wrap64; omega
      have c1 : (e : Int) < ((L r).length : Int) := by omega
      have hPe := Aside0.mk (top_le hr he).1
      rw [w1, w2, ht1.1]
      refine Ev_pos (Int.natCast_nonneg _) ?_
      refine Ev_pos c1 ?_
      refine Ev_neg htpn ?_
      by_cases h0 : rd (L r) (e : Int) / tp = 0
      · refine Ev_pos h0 ?_
        refine Ev_up ?_
        unfold penumbraref01_DivMod.j2
        by_cases hgt : ((L r).length : Int) > ((f + 1 : Nat) : Int)
        · refine Ev_pos (decide_eq_true hgt) ?_
          obtain ⟨e', rfl⟩ : ∃ e', e = e' + 1 := ⟨e - 1, by omega⟩
          have ra2 := W_rd (W_L r) (e' : Int)
          have ht2 := tops ⟨hp, ra.2⟩ ra2 ⟨htp0, htp1⟩
          have w3 : wrap64 (((L r).length : Int) - 2) = (e' : Int) := by unfold wrap64; omega
          have w4 : wrap64 (((e' + 1 - f : Nat) : Int) - 1) = ((e' - f : Nat) : Int) := by unfold wrap64; omega
          have c2 : (e' : Int) < ((L r).length : Int) := by omega
          have c3 : ¬ (rd (L r) ((e' + 1 : Nat) : Int) * 4294967296 + rd (L r) (e' : Int)) / tp = 0 := by omega
          have hP2 := Aside0.mk (top2_le hr he)
          rw [w1, w3, w4, ht2.1]
          refine Ev_pos (Int.natCast_nonneg _) ?_
          refine Ev_pos c1 ?_
          refine Ev_pos (Int.natCast_nonneg _) ?_
          refine Ev_pos c2 ?_
          refine Ev_neg htpn ?_
          refine Ev_up ?_
          unfold penumbraref01_DivMod.j3
          refine Ev_neg c3 ?_
          refine fin _ _ ht2.2.1 ht2.2.2 (by omega) ?_
          exact guess_le (by omega) (Int.le_of_lt ht2.2.1) (Int.ediv_mul_le _ htpn) hdt2.out hP2.out
        · refine Ev_neg (by rw [decide_eq_true_iff]; exact hgt) ?_
          refine Ev_up ?_
          unfold penumbraref01_DivMod.j3
          refine Ev_pos h0 ?_
          refine fin _ 1 (by omega) (by omega) (by omega) ?_
          rw [show e - f = 0 by omega, P_zero, Int.one_mul, Int.one_mul]
          exact hdr
      · refine Ev_neg h0 ?_
        refine Ev_up ?_
        unfold penumbraref01_DivMod.j2
        refine Ev_neg (by decide) ?_
        refine Ev_up ?_
        unfold penumbraref01_DivMod.j3
        refine Ev_neg h0 ?_
        refine fin _ _ (by omega) ht1.2.2 (by omega) ?_
        exact guess_le (by omega) ht1.2.1 (Int.ediv_mul_le _ htpn) hdt2.out hPe.out
/-- the rest is halved as often as it was doubled -/
theorem rdm_l2 {T N : Nat} (hT : T < 32) (hN : N < 35184372087809) (q : List Int) : ∀ (c i : Nat) (r : Int), T - i = c → i ≤ T → 0 ≤ r → r < P N →
    Ev (fun k => penumbraref01_DivMod.l2 k (L r) (T : Int) q (i : Int)) (q, L (r / 2 ^ c), true) := by
  intro c
  induction c with
  | zero =>
    intro i r hc hi hr hrN
    refine Ev_up ?_
    unfold penumbraref01_DivMod.l2
    refine Ev_neg (by omega) ?_
    refine Ev_now ?_
    rw [Int.pow_zero, Int.ediv_one]
  | succ c ih =>
    intro i r hc hi hr hrN
    have w1 : wrap64 ((i : Int) + 1) = ((i + 1 : Nat) : Int) := by unfold wrap64; omega
    refine Ev_up ?_
    unfold penumbraref01_DivMod.l2
    rw [w1]
    refine Ev_pos (by omega) ?_
    refine Ev.bind ((Nm.L hr hrN).half hN) ?_
    refine Ev_eq (ih (i + 1) (r / 2) (by omega) (by omega) (by omega) (by omega)) ?_
    rw [Int.ediv_ediv_of_nonneg (by decide), Int.pow_succ, Int.mul_comm]
theorem lt_of_bl {x : Int} (h : 0 < x) {n : Nat} (hb : bl x ≤ (n : Int)) : x < 2 ^ n := by
  obtain ⟨k, hk⟩ : ∃ k, k = x.toNat.log2 := ⟨_, rfl⟩
  have h1 := bl_log h
  rw [← hk] at h1
  have h2 : bl x = (k : Int) + 1 := bl_of h1.1 h1.2
  have h3 : k + 1 ≤ n := by clear h1; omega
  exact Int.lt_of_lt_of_le h1.2 (two_pow_mono h3)
theorem le_of_bl {x : Int} (h : 0 < x) {n : Nat} (hb : (n : Int) < bl x) : 2 ^ n ≤ x := by
  obtain ⟨k, hk⟩ : ∃ k, k = x.toNat.log2 := ⟨_, rfl⟩
  have h1 := bl_log h
  rw [← hk] at h1
  have h2 : bl x = (k : Int) + 1 := bl_of h1.1 h1.2
  have h3 : n ≤ k := by clear h1; omega
  exact Int.le_trans (two_pow_mono h3) h1.1
theorem shift_lt_P {x : Int} (hx : 0 ≤ x) {t N : Nat} (ht : t < 32) (h : x < P N) : x * 2 ^ t < P (N + 1) := by
  rw [P_succ, Int.mul_comm 4294967296]
  exact Int.lt_of_le_of_lt (Int.mul_le_mul_of_nonneg_left (two_pow_le ht) hx) (Int.mul_lt_mul_of_pos_right h (by decide))
theorem mod_le {X D : Int} (hX : 0 ≤ X) (hD : 0 < D) : X % D ≤ X := by
  have h1 := Int.emod_add_mul_ediv X D
  have h2 : 0 ≤ D * (X / D) := Int.mul_nonneg (Int.le_of_lt hD) (Int.ediv_nonneg hX (Int.le_of_lt hD))
  omega
/-- doubled until the divisor's highest limb's highest bit is 1 -/
theorem rdm_l0 {x y : Int} (hx : 0 ≤ x) (hy : 0 < y) {i T N : Nat} (hi : (L y).length = i + 1) (hT : (T : Int) = 32 * ((i : Int) + 1) - bl y) (hT32 : T < 32) (hN : N + 32 < 17592186040000) (hiN : i < N) (hxN : x < P N) (R : List Int × List Int × Bool)
    (next : ∀ tp, tp = rd (L (y * 2 ^ T)) (i : Int) + 1 → (L (y * 2 ^ T)).length = i + 1 → Ev (fun k => penumbraref01_DivMod.l1 k (L (y * 2 ^ T)) (L (x * 2 ^ T)) (T : Int) [] ((i + 1 : Nat) : Int) tp) R) :
    ∀ (c t : Nat), T - t = c → t ≤ T → Ev (fun k => penumbraref01_DivMod.l0 k (L (y * 2 ^ t)) (L (x * 2 ^ t)) (t : Int)) R := by
  have len : ∀ t, t ≤ T → (L (y * 2 ^ t)).length = i + 1 ∧ 0 < rd (L (y * 2 ^ t)) (i : Int) ∧ bl (rd (L (y * 2 ^ t)) (i : Int)) = bl y + t - 32 * i := by
    intro t ht
    have hpos : 0 < y * 2 ^ t := Int.mul_pos hy (Int.pow_pos (by decide))
    have h2 := bl_shift hy t
    have h3 := bl_log hpos
    have h4 : bl (y * 2 ^ t) = ((y * 2 ^ t).toNat.log2 : Int) + 1 := bl_of h3.1 h3.2
    have hPy := P_le_of_length (Int.le_of_lt hy) hi
    have hby : 32 * (i : Int) < bl y := by
      obtain ⟨i0, hi0, hp0⟩ := rd_last hy
      obtain rfl : i0 = i := by omega
      have h5 := bl_V (W_L y) i0 hi hp0
      rw [V_L (by omega)] at h5
      have := bl_pos hp0
      omega
    have h6 : (y * 2 ^ t).toNat.log2 + 1 ≤ 32 * (i + 1) := by omega
    have h7 : y * 2 ^ t < P (i + 1) := by
      rw [P_pow]
      exact Int.lt_of_lt_of_le h3.2 (two_pow_mono h6)
    have h8 : P i ≤ y * 2 ^ t := by
      refine Int.le_trans ?_ h3.1
      rw [P_pow]
      exact two_pow_mono (by omega)
    have h9 := L_length_le (i + 1) h7
    have h10 := L_length_lt h8
    have hl : (L (y * 2 ^ t)).length = i + 1 := by omega
    obtain ⟨i1, hi1, hp1⟩ := rd_last hpos
    obtain rfl : i1 = i := by omega
    have h11 := bl_V (W_L (y * 2 ^ t)) i1 hi1 hp1
    rw [V_L (by omega)] at h11
    exact ⟨hl, hp1, by omega⟩
  have b1 : i + 1 < 35184372088830 := by clear len next; omega
  have b2 : N + 1 < 35184372088830 := by clear len next; omega
  intro c
  induction c with
  | zero =>
    intro t hc ht
    obtain rfl : t = T := by omega
    obtain ⟨hl, hp, hb⟩ := len t (Nat.le_refl _)
    have rt := W_rd (W_L (y * 2 ^ t)) (i : Int)
    have hn : ¬ rd (L (y * 2 ^ t)) (i : Int) < 2147483648 := by
      have h1 := le_of_bl hp (n := 31) (by omega)
      exact Int.not_lt.2 h1
    have w1 : wrap64 (((L (y * 2 ^ t)).length : Int) - 1) = (i : Int) := by unfold wrap64; omega
    have w2 : IntKind.u64.wrap (IntKind.u64.wrap (rd (L (y * 2 ^ t)) (i : Int)) + 1) = rd (L (y * 2 ^ t)) (i : Int) + 1 := by
      rw [wrap_u64_of (x := rd (L (y * 2 ^ t)) (i : Int)) (by omega) (by omega), wrap_u64_of (by omega) (by omega)]
    have c1 : (i : Int) < ((L (y * 2 ^ t)).length : Int) := by omega
    refine Ev_up ?_
    unfold penumbraref01_DivMod.l0
    rw [w1, w2]
    refine Ev_pos (Int.natCast_nonneg _) ?_
    refine Ev_pos c1 ?_
    refine Ev_neg hn ?_
    rw [hl]
    exact next _ rfl hl
  | succ c ih =>
    intro t hc ht
    have hrec := ih (t + 1) (by omega) (by omega)
    clear ih
    obtain ⟨hl, hp, hb⟩ := len t ht
    have c1 : (i : Int) < ((L (y * 2 ^ t)).length : Int) := by rw [hl]; omega
    have rt := W_rd (W_L (y * 2 ^ t)) (i : Int)
    have hlt : rd (L (y * 2 ^ t)) (i : Int) < 2147483648 := lt_of_bl hp (n := 31) (by omega)
    have w1 : wrap64 (((L (y * 2 ^ t)).length : Int) - 1) = (i : Int) := by rw [hl]; unfold wrap64; omega
    have w2 : wrap64 ((t : Int) + 1) = ((t + 1 : Nat) : Int) := by unfold wrap64; omega
    have hy2 : 0 ≤ y * 2 ^ t := Int.mul_nonneg (Int.le_of_lt hy) (Int.le_of_lt (Int.pow_pos (by decide)))
    have hx2 : 0 ≤ x * 2 ^ t := Int.mul_nonneg hx (Int.le_of_lt (Int.pow_pos (by decide)))
    have ny : Nm (L (y * 2 ^ t)) (i + 1) (y * 2 ^ t) := ⟨W_L _, V_L hy2, Nat.le_of_eq hl⟩
    have nx : Nm (L (x * 2 ^ t)) (N + 1) (x * 2 ^ t) := Nm.L hx2 (shift_lt_P hx (Nat.lt_of_le_of_lt ht hT32) hxN)
    have e1 : y * 2 ^ (t + 1) = 2 * (y * 2 ^ t) + if false then 1 else 0 := by rw [Int.pow_succ]; grind
    have e2 : x * 2 ^ (t + 1) = 2 * (x * 2 ^ t) + if false then 1 else 0 := by rw [Int.pow_succ]; grind
    rw [e1, e2] at hrec
    refine Ev_up ?_
    unfold penumbraref01_DivMod.l0
    rw [w1, w2]
    refine Ev_pos (Int.natCast_nonneg _) ?_
    refine Ev_pos c1 ?_
    refine Ev_pos hlt ?_
    refine Ev.bind (ny.double b1 false) ?_
    refine Ev.bind (nx.double b2 false) ?_
    exact hrec
theorem Nm.rdm {a b : List Int} {m n : Nat} {x y : Int} (h : Nm a m x) (k : Nm b n y) (hm : m < 8796093000000) (hn : n < 8796093000000) : Ev (fun r => penumbraref01_DivMod.f r a b) (dmS x y) := by
  refine Ev.bind (k.rzero (by omega)) ?_
  unfold dmS
  by_cases hy : y = 0
  · subst hy
    rw [if_pos rfl]
    refine Ev_pos rfl ?_
    exact Ev.now _
  · rw [if_neg hy]
    refine Ev_neg (by simp [hy]) ?_
    refine Ev.bind (k.rnrm (by omega)) ?_
    refine Ev.bind (h.rnrm (by omega)) ?_
    have hyp : 0 < y := by have := k.pos; omega
    have hx := h.pos
    obtain ⟨i, hi, hp⟩ := rd_last hyp
    have hkl := k.norm.le
    have hb1 := bl_V (W_L y) i hi hp
    rw [V_L (by omega)] at hb1
    have rt := W_rd (W_L y) (i : Int)
    have hb2 := bl_pos hp
    have hb3 := bl_32 rt.2
    obtain ⟨T, hT⟩ : ∃ T : Nat, (T : Int) = 32 * ((i : Int) + 1) - bl y := ⟨(32 * ((i : Int) + 1) - bl y).toNat, by omega⟩
    have hT32 : T < 32 := by omega
    have hxN : x < P (m + n) := Int.lt_of_lt_of_le h.lt (P_le (by omega))
    have hpow : (0 : Int) < 2 ^ T := Int.pow_pos (by decide)
    have hds := div_shift (x := x) hyp T
    have hA := shift_lt_P hx hT32 hxN
    have hys : 0 < y * 2 ^ T := Int.mul_pos hyp hpow
    have hxs : 0 ≤ x * 2 ^ T := Int.mul_nonneg hx (Int.le_of_lt hpow)
    have e := rdm_l0 (R := (N.L (x / y), N.L (x % y), true)) hx hyp hi hT hT32 (N := m + n) (by omega) (by omega) hxN ?_ T 0 (by omega) (by omega)
    · rw [Int.pow_zero, Int.mul_one, Int.mul_one] at e
      exact e
    · intro tp htp hl
      have h1 := rdm_l1 hys hl (by omega) htp (A := x * 2 ^ T) (N := m + n + 1) (by omega) hA (T := T) (N.L (x / y), N.L (x % y), true) ?_ ((x * 2 ^ T).toNat + 1) (x * 2 ^ T) 0 (by omega) hxs (Int.le_refl _) (by rw [Int.zero_mul, Int.zero_add])
      · rw [L_zero] at h1
        exact h1
      · have h2 := rdm_l2 (T := T) (N := m + n + 1) hT32 (by omega) (N.L (x * 2 ^ T / (y * 2 ^ T))) T 0 (x * 2 ^ T % (y * 2 ^ T)) (by omega) (by omega) (Int.emod_nonneg _ (by omega)) (Int.lt_of_le_of_lt (mod_le hxs hys) hA)
        rw [hds.2, hds.1] at h2
        rw [hds.1]
        exact h2
theorem Nm.dm {a b : List Int} {m n : Nat} {x y : Int} (h : Nm a m x) (k : Nm b n y) (hm : m < 35184360000000) (hn : n < 35184360000000) : Ev (fun r => nat_DivMod.f r a b) (dmS x y) := by
  have h1 := h.le
  have h2 := k.le
  have e := ndm_f h.w k.w (by omega) (by omega)
  rwa [h.v, k.v] at e
end Go.Proofs.Ytplioajciapojaa.N
