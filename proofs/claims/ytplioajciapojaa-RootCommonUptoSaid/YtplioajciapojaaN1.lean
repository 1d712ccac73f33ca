/- What trimming, comparing, adding and taking away come to: by values. -/
import Derived.Test.YtplioajciapojaaPqd
import Derived.Test.YtplioajciapojaaN0
namespace Go.Proofs.Ytplioajciapojaa.N
set_option linter.unusedVariables false
set_option linter.unusedSimpArgs false
open Go.RowKit Go.Proofs.YtplioajciapojaaW.PrintWords Go.Proofs.YtplioajciapojaaW.PrintLast Go.Proofs.Ytplioajciapojaa.Pq

theorem Ev_pos {α : Type} {c : Prop} [Decidable c] {f g : Nat → Option α} {r : α} (hc : c) (h : Ev f r) : Ev (fun k => if c then f k else g k) r := Ev.congr (fun k => if_pos hc) h
theorem Ev_neg {α : Type} {c : Prop} [Decidable c] {f g : Nat → Option α} {r : α} (hc : ¬ c) (h : Ev g r) : Ev (fun k => if c then f k else g k) r := Ev.congr (fun k => if_neg hc) h
theorem Ev_some {α β : Type} {o : Option α} {f : Nat → α → Option β} {a : α} {r : β} (h : o = some a) (k : Ev (fun n => f n a) r) : Ev (fun n => o.bind (f n)) r := by
  subst h
  exact k
theorem Ev_now {α : Type} {o : Option α} {r : α} (h : o = some r) : Ev (fun _ => o) r := ⟨0, fun _ _ => h⟩
theorem Ev_eq {α : Type} {f : Nat → Option α} {r s : α} (h : Ev f r) (e : r = s) : Ev f s := e ▸ h
theorem Ev_up {α : Type} {f : Nat → Option α} {r : α} (h : Ev (fun k => f (k + 1)) r) : Ev f r := Ev.step (fun k => rfl) h
theorem Ev_shift {α : Type} {f : Nat → Option α} {r : α} (h : Ev f r) : Ev (fun k => f (k + 1)) r := by
  obtain ⟨K, h⟩ := h
  exact ⟨K, fun k hk => h (k + 1) (by omega)⟩

/-! ### trimmed -/
theorem n_take {l : List Int} (hw : W l) : ∀ m, m ≤ l.length → l.take (nat_trim.n l m) = L (V (l.take m))
  | 0, _ => by
    show l.take 0 = _
    rw [List.take_zero, V_nil, L_zero]
  | m + 1, h => by
    have hv := V_take_succ l m (by omega)
    show l.take (if l.getD m 0 = 0 then nat_trim.n l m else m + 1) = _
    have hrd : rd l (m : Int) = l.getD m 0 := rfl
    by_cases hz : l.getD m 0 = 0
    · rw [if_pos hz, n_take hw m (by omega), hv, hrd, hz]
      simp
    · rw [if_neg hz]
      refine (L_V (W_take hw _) (fun hne => ?_)).symm
      have e := take_succ_rd l m (by omega)
      have : (l.take (m + 1)).getLast hne = rd l (m : Int) := by
        simp only [e, List.getLast_append, List.getLast_singleton]
        simp
      rw [this, hrd]
      exact hz
theorem trim_f {l : List Int} (hw : W l) : nat_trim.f l = some (L (V l)) := by
  unfold nat_trim.f
  rw [n_take hw l.length (Nat.le_refl _), List.take_length]
theorem L_len_le {l : List Int} (hw : W l) : (L (V l)).length ≤ l.length := L_length_le _ (V_lt hw)
theorem L_L {n : Int} (h : 0 ≤ n) : L (V (L n)) = L n := by rw [V_L h]
theorem trim_L {n : Int} (h : 0 ≤ n) : nat_trim.f (L n) = some (L n) := by rw [trim_f (W_L n), V_L h]
/-- lists are within bounds -/
abbrev Sm (l : List Int) : Prop := l.length < 35184372087809
theorem Sm_L {l : List Int} (hw : W l) (h : Sm l) : Sm (L (V l)) := Nat.lt_of_le_of_lt (L_len_le hw) h
theorem clone_f {l : List Int} (h : l.length < 35184372088832) : slices_Clone_uint32_uint32.f l = some l := if_pos h
theorem norm_f {l : List Int} (hw : W l) (h : Sm l) : nat_Norm.f l = some (L (V l)) := by
  have hl := Sm_L hw h
  unfold nat_Norm.f
  rw [trim_f hw, Option.bind_some, clone_f (by unfold Sm at hl; omega), Option.bind_some]
theorem rnorm_l {l : List Int} (h : l.length < 35184372088832) : ∀ (m : Nat), m ≤ l.length → Ev (fun k => penumbraref01_Norm.l0 k l (m : Int)) (l.take (nat_trim.n l m))
  | 0, _ => by
    refine Ev.step (fun k => rfl) ?_
    refine Ev_neg (by omega) ?_
    refine Ev_some rfl ?_
    refine Ev_pos (by omega) ?_
    refine Ev_pos (by omega) ?_
    refine Ev_pos (by simp) ?_
    exact Ev_now (by simp [nat_trim.n])
  | m + 1, hm => by
    have w1 : wrap64 (((m + 1 : Nat) : Int) - 1) = (m : Int) := by unfold wrap64; omega
    refine Ev.step (fun k => rfl) ?_
    refine Ev_pos (by omega) ?_
    rw [w1]
    refine Ev_pos (by omega) ?_
    refine Ev_pos (by omega) ?_
    have hrd : rd l (m : Int) = l.getD m 0 := rfl
    by_cases hz : l.getD m 0 = 0
    · refine Ev_pos (hrd.trans hz) ?_
      refine Ev_eq (rnorm_l h m (by omega)) ?_
      show _ = l.take (if l.getD m 0 = 0 then nat_trim.n l m else m + 1)
      rw [if_pos hz]
    · refine Ev_neg (fun e => hz (hrd.symm.trans e)) ?_
      refine Ev_some rfl ?_
      refine Ev_pos (by omega) ?_
      refine Ev_pos (by omega) ?_
      refine Ev_pos (by simp; omega) ?_
      refine Ev_now ?_
      show _ = some (l.take (if l.getD m 0 = 0 then nat_trim.n l m else m + 1))
      rw [if_neg hz]
      simp only [List.nil_append, Int.toNat_natCast]
theorem rnorm_f {l : List Int} (hw : W l) (h : l.length < 35184372088832) : Ev (fun k => penumbraref01_Norm.f k l) (L (V l)) := by
  refine Ev_eq (rnorm_l h l.length (Nat.le_refl _)) ?_
  rw [n_take hw l.length (Nat.le_refl _), List.take_length]

/-! ### the same, limb by limb -/
theorem same_l (a : List Int) (h : a.length < 4611686018427387904) : ∀ (d m : Nat), a.length - m = d → m ≤ a.length → Ev (fun k => penumbraref01_Same.l0 k a a (m : Int)) true
  | 0, m, hd, hm => by
    refine Ev.step (fun k => rfl) ?_
    refine Ev_neg (by omega) ?_
    exact Ev.now _
  | d + 1, m, hd, hm => by
    have w1 : wrap64 ((m : Int) + 1) = ((m + 1 : Nat) : Int) := by unfold wrap64; omega
    refine Ev.step (fun k => rfl) ?_
    refine Ev_pos (by omega) ?_
    refine Ev_pos (by omega) ?_
    refine Ev_pos (by omega) ?_
    refine Ev_pos rfl ?_
    rw [w1]
    exact same_l a h d (m + 1) (by omega) (by omega)
theorem same_f {a : List Int} (h : a.length < 4611686018427387904) : Ev (fun k => penumbraref01_Same.f k a a) true := by
  refine Ev_pos rfl ?_
  exact same_l a h a.length 0 (by omega) (by omega)

/-! ### limbs, sums and differences of limbs -/
theorem limb_f {a : List Int} (hw : W a) (i : Nat) : penumbraref01_limb.f a (i : Int) = some (rd a (i : Int)) := by
  unfold penumbraref01_limb.f
  have hb := W_rd hw (i : Int)
  by_cases h : (i : Int) < (a.length : Int)
  · rw [if_pos h, if_pos (by omega), wrap_u64_of hb.1 (by omega)]
  · rw [if_neg h, rd_beyond a i (by omega)]
theorem add32_f {a b c : Int} (ha : 0 ≤ a ∧ a < 4294967296) (hb : 0 ≤ b ∧ b < 4294967296) (hc : 0 ≤ c ∧ c ≤ 1) : bits_Add32.f a b c = some ((a + b + c) % 4294967296, (a + b + c) / 4294967296) := by
  unfold bits_Add32.f
  rw [wrap_u64_of ha.1 (by omega), wrap_u64_of hb.1 (by omega), wrap_u64_of hc.1 (by omega), wrap_u64_of (x := a + b) (by omega) (by omega), wrap_u64_of (x := a + b + c) (by omega) (by omega)]
  rw [show ((a + b + c) / 4294967296) % 4294967296 = (a + b + c) / 4294967296 by omega]
theorem sub32_f {a b c : Int} (ha : 0 ≤ a ∧ a < 4294967296) (hb : 0 ≤ b ∧ b < 4294967296) (hc : 0 ≤ c ∧ c ≤ 1) : bits_Sub32.f a b c = some ((a - b - c) % 4294967296, bits_Sub32.b a b c) := by
  unfold bits_Sub32.f
  rw [if_pos ⟨ha, hb, hc⟩]
theorem sub32_b (a b c : Int) : (a < b + c → bits_Sub32.b a b c = 1) ∧ (b + c ≤ a → bits_Sub32.b a b c = 0) := by
  unfold bits_Sub32.b
  constructor
  · intro h; rw [if_pos h]
  · intro h; rw [if_neg (by omega)]

/-! ### comparing -/
/-- -1, 0, 1 -/
def cm (x y : Int) : Int := if x < y then -1 else if y < x then 1 else 0
theorem cmp_step (a b : List Int) (i : Nat) (ha : W a) (hb : W b) : cm (V (a.take (i + 1))) (V (b.take (i + 1))) = if rd a (i : Int) < rd b (i : Int) then -1 else if rd a (i : Int) > rd b (i : Int) then 1 else cm (V (a.take i)) (V (b.take i)) := by
  rw [V_take_succ', V_take_succ']
  have a1 := V_nonneg (W_take ha i)
  have a2 := V_take_lt ha i
  have b1 := V_nonneg (W_take hb i)
  have b2 := V_take_lt hb i
  rcases Int.lt_trichotomy (rd a (i : Int)) (rd b (i : Int)) with h | h | h
  · rw [if_pos h]
    unfold cm
    rw [if_pos (P_mul_lt a1 a2 b1 h)]
  · rw [if_neg (by omega), if_neg (by omega), h]
    unfold cm
    generalize P i * rd b (i : Int) = z
    by_cases h1 : V (a.take i) < V (b.take i)
    · rw [if_pos h1, if_pos (by omega)]
    · rw [if_neg h1, if_neg (by omega)]
      by_cases h2 : V (b.take i) < V (a.take i)
      · rw [if_pos h2, if_pos (by omega)]
      · rw [if_neg h2, if_neg (by omega)]
  · have := P_mul_lt b1 b2 a1 h
    rw [if_neg (by omega), if_pos h]
    unfold cm
    rw [if_neg (by omega), if_pos this]
theorem ncmp_l {a b : List Int} (ha : W a) (hb : W b) (hl : a.length = b.length) (hs : a.length < 35184372087809) : ∀ (m : Nat), m ≤ a.length → Ev (fun k => nat_Cmp.l0 k a b ((m : Int) - 1)) (cm (V (a.take m)) (V (b.take m)))
  | 0, _ => by
    refine Ev.step (fun k => rfl) ?_
    refine Ev_neg (by omega) ?_
    exact Ev_now (by simp [cm])
  | m + 1, h => by
    have e : ((m + 1 : Nat) : Int) - 1 = (m : Int) := by omega
    have w1 : wrap64 ((m : Int) - 1) = (m : Int) - 1 := by unfold wrap64; omega
    rw [e, cmp_step a b m ha hb]
    refine Ev.step (fun k => rfl) ?_
    refine Ev_pos (by omega) ?_
    refine Ev_pos (by omega) ?_
    refine Ev_pos (by omega) ?_
    refine Ev_pos (by omega) ?_
    by_cases h1 : rd a (m : Int) < rd b (m : Int)
    · rw [if_pos h1]
      refine Ev_pos h1 ?_
      exact Ev.now _
    · rw [if_neg h1]
      refine Ev_neg h1 ?_
      by_cases h2 : rd a (m : Int) > rd b (m : Int)
      · rw [if_pos h2]
        refine Ev_pos h2 ?_
        exact Ev.now _
      · rw [if_neg h2, w1]
        refine Ev_neg h2 ?_
        exact ncmp_l ha hb hl hs m (by omega)
theorem ncmp_f {a b : List Int} (ha : W a) (hb : W b) (sa : Sm a) (sb : Sm b) : Ev (fun k => nat_Cmp.f k a b) (cm (V a) (V b)) := by
  have hla := Sm_L ha sa
  have hlb := Sm_L hb sb
  unfold Sm at hla hlb
  have va := V_nonneg ha
  have vb := V_nonneg hb
  have A := V_lt (W_L (V a))
  have Bv := V_lt (W_L (V b))
  rw [V_L va] at A
  rw [V_L vb] at Bv
  refine Ev_some (trim_f ha) ?_
  refine Ev_some (trim_f hb) ?_
  rcases Nat.lt_trichotomy (L (V a)).length (L (V b)).length with h | h | h
  · refine Ev_neg (by omega) ?_
    refine Ev_pos (by omega) ?_
    refine Ev_now ?_
    have : V a < V b := by
      by_cases h1 : V a < V b
      · exact h1
      · have := L_length_le (L (V a)).length (n := V b) (by omega)
        omega
    unfold cm
    rw [if_pos this]
  · refine Ev_pos (by omega) ?_
    have w1 : wrap64 (((L (V a)).length : Int) - 1) = ((L (V a)).length : Int) - 1 := by unfold wrap64; omega
    rw [w1]
    refine Ev_eq (ncmp_l (W_L _) (W_L _) h hla _ (Nat.le_refl _)) ?_
    rw [List.take_length, h, List.take_length, V_L va, V_L vb]
  · refine Ev_neg (by omega) ?_
    refine Ev_neg (by omega) ?_
    refine Ev_now ?_
    have : V b < V a := by
      by_cases h1 : V b < V a
      · exact h1
      · have := L_length_le (L (V b)).length (n := V a) (by omega)
        omega
    unfold cm
    rw [if_neg (by omega), if_pos this]
theorem rcmp_l {a b : List Int} (ha : W a) (hb : W b) : ∀ (m : Nat), m < 70368744177664 → Ev (fun k => penumbraref01_Cmp.l0 k a b ((m : Int) - 1)) (cm (V (a.take m)) (V (b.take m)))
  | 0, _ => by
    refine Ev.step (fun k => rfl) ?_
    refine Ev_neg (by omega) ?_
    exact Ev_now (by simp [cm])
  | m + 1, h => by
    have e : ((m + 1 : Nat) : Int) - 1 = (m : Int) := by omega
    have w1 : wrap64 ((m : Int) - 1) = (m : Int) - 1 := by unfold wrap64; omega
    rw [e, cmp_step a b m ha hb]
    refine Ev.step (fun k => rfl) ?_
    refine Ev_pos (by omega) ?_
    refine Ev_some (limb_f ha m) ?_
    refine Ev_some (limb_f hb m) ?_
    by_cases h1 : rd a (m : Int) < rd b (m : Int)
    · rw [if_pos h1]
      refine Ev_pos h1 ?_
      exact Ev.now _
    · rw [if_neg h1]
      refine Ev_neg h1 ?_
      by_cases h2 : rd a (m : Int) > rd b (m : Int)
      · rw [if_pos h2]
        refine Ev_pos h2 ?_
        exact Ev.now _
      · rw [if_neg h2, w1]
        refine Ev_neg h2 ?_
        exact rcmp_l ha hb m (by omega)
theorem rcmp_f {a b : List Int} (ha : W a) (hb : W b) (sa : Sm a) (sb : Sm b) : Ev (fun k => penumbraref01_Cmp.f k a b) (cm (V a) (V b)) := by
  unfold Sm at sa sb
  have hm : ∃ m : Nat, m < 70368744177664 ∧ a.length ≤ m ∧ b.length ≤ m ∧ wrap64 ((mx (a.length : Int) (b.length : Int)) - 1) = (m : Int) - 1 := by
    refine ⟨max a.length b.length, by omega, by omega, by omega, ?_⟩
    have : mx (a.length : Int) (b.length : Int) = ((max a.length b.length : Nat) : Int) := by
      unfold mx
      split <;> omega
    rw [this]
    unfold wrap64
    omega
  obtain ⟨m, h1, h2, h3, e⟩ := hm
  have := rcmp_l ha hb m h1
  rw [V_take_all a m h2, V_take_all b m h3] at this
  show Ev (fun k => penumbraref01_Cmp.l0 k a b (wrap64 ((mx (a.length : Int) (b.length : Int)) - 1))) _
  rw [e]
  exact this

/-! ### sums -/
theorem nadd_l0 {a b : List Int} (ha : W a) (hb : W b) (hl : b.length ≤ a.length) (sa : Sm a) : ∀ (d i : Nat) (p : List Int) (c : Int), a.length - i = d → i ≤ a.length → W p → p.length = i → 0 ≤ c ∧ c ≤ 1 →
    V p + P i * c = V (a.take i) + V (b.take i) → Ev (fun k => nat_Add.l0 k b p c a (a.length : Int) (i : Int)) (L (V a + V b)) := by
  intro d
  induction d with
  | zero =>
    intro i p c hd hi hp hpl hc hv
    have sa' : a.length < 35184372087809 := sa
    obtain rfl : i = a.length := by omega
    refine Ev.step (fun k => rfl) ?_
    refine Ev_neg (by omega) ?_
    refine Ev_pos (by omega) ?_
    refine Ev_some (trim_f (W_append hp (W_one hc.1 (by omega)))) ?_
    refine Ev_now ?_
    rw [V_snoc, hpl, hv, List.take_length, V_take_all b _ hl]
  | succ d ih =>
    intro i p c hd hi hp hpl hc hv
    have HV := Aside0.mk hv
    clear hv
    have sa' : a.length < 35184372087809 := sa
    have w1 : wrap64 ((i : Int) + 1) = ((i + 1 : Nat) : Int) := by unfold wrap64; omega
    have ra := W_rd ha (i : Int)
    have rb := W_rd hb (i : Int)
    have key : Aside0 (V (p ++ [(rd a (i : Int) + rd b (i : Int) + c) % 4294967296]) + P (i + 1) * ((rd a (i : Int) + rd b (i : Int) + c) / 4294967296) = V (a.take (i + 1)) + V (b.take (i + 1))) := ⟨by
      have hv := HV.out
      rw [V_snoc, hpl, V_take_succ' a i, V_take_succ' b i, P_succ]
      have := Int.emod_add_mul_ediv (rd a (i : Int) + rd b (i : Int) + c) 4294967296
      grind⟩
    have hrec := ih (i + 1) (p ++ [(rd a (i : Int) + rd b (i : Int) + c) % 4294967296]) ((rd a (i : Int) + rd b (i : Int) + c) / 4294967296) (by omega) (by omega) (W_append hp (W_one (by omega) (by omega))) (by simp [hpl]) (by omega) key.out
    refine Ev.step (fun k => rfl) ?_
    refine Ev_pos (by omega) ?_
    refine Ev_pos (by omega) ?_
    refine Ev_pos (by omega) ?_
    by_cases hib : (i : Int) < (b.length : Int)
    · refine Ev_pos hib ?_
      refine Ev_some (add32_f ra rb hc) ?_
      refine Ev_pos (by omega) ?_
      rw [w1]
      exact hrec
    · have hz : rd b (i : Int) = 0 := rd_beyond b _ (by omega)
      rw [hz] at hrec rb
      refine Ev_neg hib ?_
      refine Ev_some (add32_f ra rb hc) ?_
      refine Ev_pos (by omega) ?_
      rw [w1]
      exact hrec
theorem nadd_l100 {a b : List Int} (ha : W a) (hb : W b) (hl : b.length ≤ a.length) (sa : Sm a) : ∀ (d i : Nat) (p : List Int) (c : Int), a.length - i = d → i ≤ a.length → W p → p.length = i → 0 ≤ c ∧ c ≤ 1 →
    V p + P i * c = V (a.take i) + V (b.take i) → Ev (fun k => nat_Add.l100 k b p c a (a.length : Int) (i : Int)) (L (V a + V b)) := by
  intro d
  induction d with
  | zero =>
    intro i p c hd hi hp hpl hc hv
    have sa' : a.length < 35184372087809 := sa
    obtain rfl : i = a.length := by omega
    refine Ev.step (fun k => rfl) ?_
    refine Ev_neg (by omega) ?_
    refine Ev_pos (by omega) ?_
    refine Ev_some (trim_f (W_append hp (W_one hc.1 (by omega)))) ?_
    refine Ev_now ?_
    rw [V_snoc, hpl, hv, List.take_length, V_take_all b _ hl]
  | succ d ih =>
    intro i p c hd hi hp hpl hc hv
    have HV := Aside0.mk hv
    clear hv
    have sa' : a.length < 35184372087809 := sa
    have w1 : wrap64 ((i : Int) + 1) = ((i + 1 : Nat) : Int) := by unfold wrap64; omega
    have ra := W_rd ha (i : Int)
    have rb := W_rd hb (i : Int)
    have key : Aside0 (V (p ++ [(rd a (i : Int) + rd b (i : Int) + c) % 4294967296]) + P (i + 1) * ((rd a (i : Int) + rd b (i : Int) + c) / 4294967296) = V (a.take (i + 1)) + V (b.take (i + 1))) := ⟨by
      have hv := HV.out
      rw [V_snoc, hpl, V_take_succ' a i, V_take_succ' b i, P_succ]
      have := Int.emod_add_mul_ediv (rd a (i : Int) + rd b (i : Int) + c) 4294967296
      grind⟩
    have hrec := ih (i + 1) (p ++ [(rd a (i : Int) + rd b (i : Int) + c) % 4294967296]) ((rd a (i : Int) + rd b (i : Int) + c) / 4294967296) (by omega) (by omega) (W_append hp (W_one (by omega) (by omega))) (by simp [hpl]) (by omega) key.out
    refine Ev.step (fun k => rfl) ?_
    refine Ev_pos (by omega) ?_
    refine Ev_pos (by omega) ?_
    refine Ev_pos (by omega) ?_
    by_cases hib : (i : Int) < (b.length : Int)
    · refine Ev_pos hib ?_
      refine Ev_some (add32_f ra rb hc) ?_
      refine Ev_pos (by omega) ?_
      rw [w1]
      exact hrec
    · have hz : rd b (i : Int) = 0 := rd_beyond b _ (by omega)
      rw [hz] at hrec rb
      refine Ev_neg hib ?_
      refine Ev_some (add32_f ra rb hc) ?_
      refine Ev_pos (by omega) ?_
      rw [w1]
      exact hrec
theorem nadd_f {a b : List Int} (ha : W a) (hb : W b) (sa : Sm a) (sb : Sm b) : Ev (fun k => nat_Add.f k a b) (L (V a + V b)) := by
  have hla := Sm_L ha sa
  have hlb := Sm_L hb sb
  have va := V_nonneg ha
  have vb := V_nonneg hb
  have hla' := hla
  have hlb' := hlb
  unfold Sm at hla' hlb'
  refine Ev_some (trim_f ha) ?_
  refine Ev_some (trim_f hb) ?_
  by_cases h : ((L (V a)).length : Int) < ((L (V b)).length : Int)
  · have w1 : wrap64 (((L (V b)).length : Int) + 1) = ((L (V b)).length : Int) + 1 := by unfold wrap64; omega
    refine Ev_pos h ?_
    rw [w1]
    refine Ev_pos (by omega) ?_
    refine Ev_pos (by omega) ?_
    refine Ev_eq (nadd_l0 (W_L _) (W_L _) (by omega) hlb _ 0 [] 0 rfl (Nat.zero_le _) W_nil rfl (by omega) (by simp [V])) ?_
    rw [V_L va, V_L vb, Int.add_comm]
  · have w1 : wrap64 (((L (V a)).length : Int) + 1) = ((L (V a)).length : Int) + 1 := by unfold wrap64; omega
    refine Ev_neg h ?_
    rw [w1]
    refine Ev_pos (by omega) ?_
    refine Ev_pos (by omega) ?_
    refine Ev_eq (nadd_l100 (W_L _) (W_L _) (by omega) hla _ 0 [] 0 rfl (Nat.zero_le _) W_nil rfl (by omega) (by simp [V])) ?_
    rw [V_L va, V_L vb]
theorem radd_l {a b : List Int} (ha : W a) (hb : W b) (sa : Sm a) (sb : Sm b) : ∀ (d i : Nat) (p : List Int) (c : Int), max a.length b.length - i = d → i ≤ max a.length b.length → W p → p.length = i → 0 ≤ c ∧ c ≤ 1 →
    V p + P i * c = V (a.take i) + V (b.take i) → Ev (fun k => penumbraref01_Add.l0 k a b p c (i : Int)) (L (V a + V b)) := by
  intro d
  induction d with
  | zero =>
    intro i p c hd hi hp hpl hc hv
    have sa' : a.length < 35184372087809 := sa
    have sb' : b.length < 35184372087809 := sb
    refine Ev.step (fun k => rfl) ?_
    refine Ev_neg (by omega) ?_
    have hdec : decide ((i : Int) < (b.length : Int)) = false := decide_eq_false (by omega)
    rw [hdec]
    refine Ev_up ?_
    unfold penumbraref01_Add.j1
    refine Ev_neg (by decide) ?_
    refine Ev_pos (by omega) ?_
    have ec : c % 4294967296 = c := by omega
    rw [ec]
    refine Ev.bind (rnorm_f (W_append hp (W_one hc.1 (by omega))) (by simp; omega)) ?_
    refine Ev_now ?_
    rw [V_snoc, hpl, hv, V_take_all a _ (by omega), V_take_all b _ (by omega)]
  | succ d ih =>
    intro i p c hd hi hp hpl hc hv
    have HV := Aside0.mk hv
    clear hv
    have sa' : a.length < 35184372087809 := sa
    have sb' : b.length < 35184372087809 := sb
    have w1 : wrap64 ((i : Int) + 1) = ((i + 1 : Nat) : Int) := by unfold wrap64; omega
    have ra := W_rd ha (i : Int)
    have rb := W_rd hb (i : Int)
    have key : Aside0 (V (p ++ [(rd a (i : Int) + rd b (i : Int) + c) % 4294967296]) + P (i + 1) * ((rd a (i : Int) + rd b (i : Int) + c) / 4294967296) = V (a.take (i + 1)) + V (b.take (i + 1))) := ⟨by
      have hv := HV.out
      rw [V_snoc, hpl, V_take_succ' a i, V_take_succ' b i, P_succ]
      have := Int.emod_add_mul_ediv (rd a (i : Int) + rd b (i : Int) + c) 4294967296
      grind⟩
    have hrec := ih (i + 1) (p ++ [(rd a (i : Int) + rd b (i : Int) + c) % 4294967296]) ((rd a (i : Int) + rd b (i : Int) + c) / 4294967296) (by omega) (by omega) (W_append hp (W_one (by omega) (by omega))) (by simp [hpl]) (by omega) key.out
    have hx : Ev (fun k => penumbraref01_Add.j1 k a b p c (i : Int) true) (L (V a + V b)) := by
      refine Ev_up ?_
      unfold penumbraref01_Add.j1
      refine Ev_pos rfl ?_
      refine Ev_some (limb_f ha i) ?_
      refine Ev_some (limb_f hb i) ?_
      refine Ev_pos (by omega) ?_
      have w2 : IntKind.u64.wrap (IntKind.u64.wrap (rd a (i : Int) + rd b (i : Int)) + c) = rd a (i : Int) + rd b (i : Int) + c := by rw [wrap_u64_of (x := rd a (i : Int) + rd b (i : Int)) (by omega) (by omega), wrap_u64_of (by omega) (by omega)]
      rw [w2, w1, Int.tmod_eq_emod_of_nonneg (by omega), Int.tdiv_eq_ediv_of_nonneg (by omega), wrap_u64_of (by omega) (by omega), Int.emod_emod]
      exact hrec
    refine Ev.step (fun k => rfl) ?_
    by_cases hia : (i : Int) < (a.length : Int)
    · refine Ev_pos hia ?_
      exact hx
    · refine Ev_neg hia ?_
      have hdec : decide ((i : Int) < (b.length : Int)) = true := decide_eq_true (by omega)
      rw [hdec]
      exact hx
theorem radd_f {a b : List Int} (ha : W a) (hb : W b) (sa : Sm a) (sb : Sm b) : Ev (fun k => penumbraref01_Add.f k a b) (L (V a + V b)) :=
  radd_l ha hb sa sb _ 0 [] 0 rfl (Nat.zero_le _) W_nil rfl (by omega) (by simp [V])

/-! ### differences -/
theorem nsub_l {a b : List Int} (ha : W a) (hb : W b) (hl : b.length ≤ a.length) (sa : Sm a) (hle : V b ≤ V a) : ∀ (d i : Nat) (p : List Int) (c : Int), a.length - i = d → i ≤ a.length → W p → p.length = i → 0 ≤ c ∧ c ≤ 1 →
    V p - P i * c = V (a.take i) - V (b.take i) → Ev (fun k => nat_Sub.l0 k b p c a (a.length : Int) (i : Int)) (L (V a - V b), true) := by
  intro d
  induction d with
  | zero =>
    intro i p c hd hi hp hpl hc hv
    have sa' : a.length < 35184372087809 := sa
    obtain rfl : i = a.length := by omega
    refine Ev.step (fun k => rfl) ?_
    refine Ev_neg (by omega) ?_
    refine Ev_some (trim_f hp) ?_
    refine Ev_now ?_
    rw [List.take_length, V_take_all b _ hl] at hv
    have h1 := V_lt hp
    rw [hpl] at h1
    have h2 := P_pos a.length
    have hc0 : c = 0 := by
      rcases (show c = 0 ∨ c = 1 by omega) with h | h
      · exact h
      · rw [h] at hv; omega
    rw [hc0] at hv
    rw [show V p = V a - V b by simpa using hv]
  | succ d ih =>
    intro i p c hd hi hp hpl hc hv
    have HV := Aside0.mk hv
    clear hv
    have sa' : a.length < 35184372087809 := sa
    have w1 : wrap64 ((i : Int) + 1) = ((i + 1 : Nat) : Int) := by unfold wrap64; omega
    have ra := W_rd ha (i : Int)
    have rb := W_rd hb (i : Int)
    have hbb := sub32_b (rd a (i : Int)) (rd b (i : Int)) c
    have hb01 : bits_Sub32.b (rd a (i : Int)) (rd b (i : Int)) c = 0 ∨ bits_Sub32.b (rd a (i : Int)) (rd b (i : Int)) c = 1 := by
      rcases Int.lt_or_le (rd a (i : Int)) (rd b (i : Int) + c) with h | h
      · exact .inr (hbb.1 h)
      · exact .inl (hbb.2 h)
    have hlim : (rd a (i : Int) - rd b (i : Int) - c) % 4294967296 - 4294967296 * bits_Sub32.b (rd a (i : Int)) (rd b (i : Int)) c = rd a (i : Int) - rd b (i : Int) - c := by
      rcases Int.lt_or_le (rd a (i : Int)) (rd b (i : Int) + c) with h | h
      · rw [hbb.1 h]; omega
      · rw [hbb.2 h]; omega
    have key : Aside0 (V (p ++ [(rd a (i : Int) - rd b (i : Int) - c) % 4294967296]) - P (i + 1) * (bits_Sub32.b (rd a (i : Int)) (rd b (i : Int)) c) = V (a.take (i + 1)) - V (b.take (i + 1))) := ⟨by
      have hv := HV.out
      rw [V_snoc, hpl, V_take_succ' a i, V_take_succ' b i, P_succ]
      grind⟩
    have hrec := ih (i + 1) (p ++ [(rd a (i : Int) - rd b (i : Int) - c) % 4294967296]) (bits_Sub32.b (rd a (i : Int)) (rd b (i : Int)) c) (by omega) (by omega) (W_append hp (W_one (by omega) (by omega))) (by simp [hpl]) (by omega) key.out
    refine Ev.step (fun k => rfl) ?_
    refine Ev_pos (by omega) ?_
    refine Ev_pos (by omega) ?_
    refine Ev_pos (by omega) ?_
    by_cases hib : (i : Int) < (b.length : Int)
    · refine Ev_pos hib ?_
      refine Ev_some (sub32_f ra rb hc) ?_
      refine Ev_pos (by omega) ?_
      rw [w1]
      exact hrec
    · have hz : rd b (i : Int) = 0 := rd_beyond b _ (by omega)
      rw [hz] at hrec rb
      refine Ev_neg hib ?_
      refine Ev_some (sub32_f ra rb hc) ?_
      refine Ev_pos (by omega) ?_
      rw [w1]
      exact hrec
/-- what Sub answers -/
def subS (x y : Int) : List Int × Bool := if x < y then ([], false) else (L (x - y), true)
theorem cm_neg {x y : Int} : cm x y < 0 ↔ x < y := by
  unfold cm
  split
  · simp [*]
  · split <;> simp [*]
theorem nsub_f {a b : List Int} (ha : W a) (hb : W b) (sa : Sm a) (sb : Sm b) : Ev (fun k => nat_Sub.f k a b) (subS (V a) (V b)) := by
  have hla := Sm_L ha sa
  have hlb := Sm_L hb sb
  have va := V_nonneg ha
  have vb := V_nonneg hb
  have hla' := hla
  have hlb' := hlb
  unfold Sm at hla' hlb'
  refine Ev.bind (ncmp_f ha hb sa sb) ?_
  unfold subS
  by_cases h : V a < V b
  · rw [if_pos h]
    refine Ev_pos (cm_neg.2 h) ?_
    exact Ev.now _
  · rw [if_neg h]
    refine Ev_neg (fun e => h (cm_neg.1 e)) ?_
    refine Ev_some (trim_f ha) ?_
    refine Ev_some (trim_f hb) ?_
    refine Ev_pos (by omega) ?_
    refine Ev_pos (by omega) ?_
    have hle : (L (V b)).length ≤ (L (V a)).length := by
      apply L_length_le
      have h1 := V_lt (W_L (V a))
      rw [V_L va] at h1
      omega
    refine Ev_eq (nsub_l (W_L _) (W_L _) hle hla (by rw [V_L va, V_L vb]; omega) _ 0 [] 0 rfl (Nat.zero_le _) W_nil rfl (by omega) (by simp [V])) ?_
    rw [V_L va, V_L vb]
theorem rsub_l {a b : List Int} (ha : W a) (hb : W b) (sa : Sm a) (hle : V b ≤ V a) : ∀ (d i : Nat) (p : List Int) (c : Int), a.length - i = d → i ≤ a.length → W p → p.length = i → 0 ≤ c ∧ c ≤ 1 →
    V p - P i * c = V (a.take i) - V (b.take i) → Ev (fun k => penumbraref01_Sub.l0 k a b p c (i : Int)) (L (V a - V b), true) := by
  intro d
  induction d with
  | zero =>
    intro i p c hd hi hp hpl hc hv
    have sa' : a.length < 35184372087809 := sa
    obtain rfl : i = a.length := by omega
    refine Ev.step (fun k => rfl) ?_
    refine Ev_neg (by omega) ?_
    refine Ev.bind (rnorm_f hp (by omega)) ?_
    refine Ev_now ?_
    rw [List.take_length] at hv
    have h1 := V_lt hp
    rw [hpl] at h1
    have h2 := P_pos a.length
    have h3 := V_nonneg hp
    have h4 := V_split' b a.length
    have h5 := V_nonneg (W_take hb a.length)
    have h6 := V_nonneg (W_drop hb a.length)
    have h7 := V_lt ha
    have h8 : V (b.drop a.length) = 0 := by
      rcases (show V (b.drop a.length) = 0 ∨ 1 ≤ V (b.drop a.length) by omega) with h | h
      · exact h
      · have : P a.length * 1 ≤ P a.length * V (b.drop a.length) := Int.mul_le_mul_of_nonneg_left h (by omega)
        omega
    rw [h8] at h4
    have hc0 : c = 0 := by
      rcases (show c = 0 ∨ c = 1 by omega) with h | h
      · exact h
      · rw [h] at hv; omega
    rw [hc0] at hv
    rw [show V p = V a - V b by simp at hv h4; omega]
  | succ d ih =>
    intro i p c hd hi hp hpl hc hv
    have HV := Aside0.mk hv
    clear hv
    have sa' : a.length < 35184372087809 := sa
    have w1 : wrap64 ((i : Int) + 1) = ((i + 1 : Nat) : Int) := by unfold wrap64; omega
    have ra := W_rd ha (i : Int)
    have rb := W_rd hb (i : Int)
    have hbb := sub32_b (rd a (i : Int)) (rd b (i : Int)) c
    have hlim : (rd a (i : Int) - rd b (i : Int) - c) % 4294967296 - 4294967296 * bits_Sub32.b (rd a (i : Int)) (rd b (i : Int)) c = rd a (i : Int) - rd b (i : Int) - c := by
      rcases Int.lt_or_le (rd a (i : Int)) (rd b (i : Int) + c) with h | h
      · rw [hbb.1 h]; omega
      · rw [hbb.2 h]; omega
    have hq : 1 - (4294967296 + rd a (i : Int) - rd b (i : Int) - c) / 4294967296 = bits_Sub32.b (rd a (i : Int)) (rd b (i : Int)) c := by
      rcases Int.lt_or_le (rd a (i : Int)) (rd b (i : Int) + c) with h | h
      · rw [hbb.1 h]; omega
      · rw [hbb.2 h]; omega
    have key : Aside0 (V (p ++ [(rd a (i : Int) - rd b (i : Int) - c) % 4294967296]) - P (i + 1) * (bits_Sub32.b (rd a (i : Int)) (rd b (i : Int)) c) = V (a.take (i + 1)) - V (b.take (i + 1))) := ⟨by
      have hv := HV.out
      rw [V_snoc, hpl, V_take_succ' a i, V_take_succ' b i, P_succ]
      grind⟩
    have hrec := ih (i + 1) (p ++ [(rd a (i : Int) - rd b (i : Int) - c) % 4294967296]) (bits_Sub32.b (rd a (i : Int)) (rd b (i : Int)) c) (by omega) (by omega) (W_append hp (W_one (by omega) (by omega))) (by simp [hpl]) (by omega) key.out
    refine Ev.step (fun k => rfl) ?_
    refine Ev_pos (by omega) ?_
    refine Ev_some (limb_f ha i) ?_
    refine Ev_some (limb_f hb i) ?_
    refine Ev_pos (by omega) ?_
    have w2 : IntKind.u64.wrap (IntKind.u64.wrap (IntKind.u64.wrap (4294967296 + rd a (i : Int)) - rd b (i : Int)) - c) = 4294967296 + rd a (i : Int) - rd b (i : Int) - c := by
      rw [wrap_u64_of (x := 4294967296 + rd a (i : Int)) (by omega) (by omega), wrap_u64_of (x := 4294967296 + rd a (i : Int) - rd b (i : Int)) (by omega) (by omega), wrap_u64_of (by omega) (by omega)]
    rw [w2, w1, Int.tmod_eq_emod_of_nonneg (by omega), Int.tdiv_eq_ediv_of_nonneg (by omega), wrap_u64_of (x := (4294967296 + rd a (i : Int) - rd b (i : Int) - c) / 4294967296) (by omega) (by omega), wrap_u64_of (x := 1 - _) (by omega) (by omega), hq,
      show (4294967296 + rd a (i : Int) - rd b (i : Int) - c) % 4294967296 % 4294967296 = (rd a (i : Int) - rd b (i : Int) - c) % 4294967296 by omega]
    exact hrec
theorem rsub_f {a b : List Int} (ha : W a) (hb : W b) (sa : Sm a) (sb : Sm b) : Ev (fun k => penumbraref01_Sub.f k a b) (subS (V a) (V b)) := by
  refine Ev.bind (rcmp_f ha hb sa sb) ?_
  unfold subS
  by_cases h : V a < V b
  · rw [if_pos h]
    refine Ev_pos (cm_neg.2 h) ?_
    exact Ev.now _
  · rw [if_neg h]
    refine Ev_neg (fun e => h (cm_neg.1 e)) ?_
    exact rsub_l ha hb sa (by omega) _ 0 [] 0 rfl (Nat.zero_le _) W_nil rfl (by omega) (by simp [V])

/-! ### of a number -/
theorem two_limbs {n : Int} (h0 : 0 ≤ n) (h1 : n < 18446744073709551616) : W [n % 4294967296, (n / 4294967296) % 4294967296] ∧ V [n % 4294967296, (n / 4294967296) % 4294967296] = n :=
  ⟨W_cons.2 ⟨by omega, W_one (by omega) (by omega)⟩, by simp [V]; omega⟩
theorem nof_f {n : Int} (h0 : 0 ≤ n) (h1 : n < 18446744073709551616) : nat_Of.f n = some (L n) := by
  obtain ⟨hw, hv⟩ := two_limbs h0 h1
  unfold nat_Of.f
  rw [norm_f hw (by unfold Sm; simp), hv, Option.bind_some]
theorem rof_f {n : Int} (h0 : 0 ≤ n) (h1 : n < 18446744073709551616) : Ev (fun k => penumbraref01_Of.f k n) (L n) := by
  obtain ⟨hw, hv⟩ := two_limbs h0 h1
  refine Ev.bind (rnorm_f hw (by simp)) ?_
  refine Ev_now ?_
  rw [hv]
end Go.Proofs.Ytplioajciapojaa.N
