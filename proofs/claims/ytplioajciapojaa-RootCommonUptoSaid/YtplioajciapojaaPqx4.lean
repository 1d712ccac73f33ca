-- written by a program of this project, over the kit's print
import Derived.Test.YtplioajciapojaaPqx0
import Derived.Test.YtplioajciapojaaPqd
import Derived.Test.YtplioajciapojaaPqx1
namespace Go.Proofs.Ytplioajciapojaa.Pq
open Go.RowKit Go.Proofs.YtplioajciapojaaW.PrintWords Go.Proofs.YtplioajciapojaaW.PrintLast Go.Proofs.YtplioajciapojaaW.PrintMore
attribute [local go_sem] max2_int min2_int max_two min_two max_three min_three max_four min_four   -- for this text's walks alone
set_option linter.unusedVariables false
set_option linter.unusedSimpArgs false

/-! ### nat_shr: function 58 -/
theorem nat_shr.mono_l : ∀ k, (∀ y0 y1 y2 y3 y4 y5, LeO (nat_shr.l0 k y0 y1 y2 y3 y4 y5) (nat_shr.l0 (k + 1) y0 y1 y2 y3 y4 y5))
  | 0 => fun _ _ _ _ _ _ r h => by simp [nat_shr.l0] at h
  | k + 1 => by
    have ih0 := nat_shr.mono_l k
    · intro y0 y1 y2 y3 y4 y5
      unfold nat_shr.l0
      repeat' first
      | (with_reducible exact ih0 _ _ _ _ _ _)
      | (with_reducible exact LeO.refl _)
      | (with_reducible exact LeO.none _)
      | (with_reducible refine LeO.ite ?_ ?_)
      | (with_reducible refine LeO.bind ?_ (fun _ => ?_))
      | exact ih0 _ _ _ _ _ _
      | exact LeO.none _
      | refine LeO.ite ?_ ?_
      | refine LeO.bind ?_ (fun _ => ?_)
theorem nat_shr.mono : ∀ a0 a1 k, LeO (nat_shr.f k a0 a1) (nat_shr.f (k + 1) a0 a1) := by
  intro a0 a1 k
  have ih0 := nat_shr.mono_l k
  unfold nat_shr.f
  repeat' first
      | (with_reducible exact ih0 _ _ _ _ _ _)
      | (with_reducible exact LeO.refl _)
      | (with_reducible exact LeO.none _)
      | (with_reducible refine LeO.ite ?_ ?_)
      | (with_reducible refine LeO.bind ?_ (fun _ => ?_))
      | exact ih0 _ _ _ _ _ _
      | exact LeO.none _
      | refine LeO.ite ?_ ?_
      | refine LeO.bind ?_ (fun _ => ?_)
set_option maxHeartbeats 8000000 in
set_option maxRecDepth 100000 in
theorem nat_shr.calls (k : Nat) (A0 : Option Addr) (c0 : Nat) (l0 : List Int) (a1 : Int) (r : List Int) (w : World) (hr0 : Kd.C (Kd.int .u32) w A0 l0.length l0) (hc0 : l0.length ≤ c0) (h : nat_shr.f k l0 a1 = some r) :
    Calls Try.prog 58 #[.slice A0 l0.length c0, .int .i64 a1] w fun e w' => ∃ v0_ : Value, e = .returned (v0_) ∧ Kd.R (Kd.int .u32) 32 w' w.heap.size (fun _ => True) v0_ r ∧ Below w.heap.size w w' := by
  have HR0 := Aside0.mk hr0
  have HC0 := Aside0.mk hc0
  clear hr0 hc0
  have HB := Aside0.mk (Below.refl w.heap.size w)
  have H : (if 0 ≤ (l0.length : Int) then (if ((l0.length : Int) : Int).toNat ≤ 70368744177664 then (nat_shr.l0 k l0 a1 (List.replicate ((l0.length : Int) : Int).toNat 0) l0 (l0.length : Int) 0) else (none)) else (none)) = some r := h
  clear h
  by_cases c3 : 0 ≤ (l0.length : Int)
  · rw [if_pos c3] at H
    have c3b0 := eq_true c3
    have c3b1 : decide (0 ≤ (l0.length : Int)) = true := decide_eq_true c3
    clear c3
    by_cases c4 : ((l0.length : Int) : Int).toNat ≤ 70368744177664
    · rw [if_pos c4] at H
      have c4b0 := eq_true c4
      have c4b1 : decide (((l0.length : Int) : Int).toNat ≤ 70368744177664) = true := decide_eq_true c4
      clear c4
      obtain ⟨y207, hy207⟩ : ∃ y_ : List Int, y_ = (List.replicate ((l0.length : Int) : Int).toNat 0) := ⟨_, rfl⟩
      replace H : (nat_shr.l0 k l0 a1 y207 l0 (l0.length : Int) 0) = some r := by first | (rw [hy207]; with_reducible exact H) | (have H2_ := (Option.bind_some _ _).symm.trans H; rw [hy207]; with_reducible exact H2_) | (have H2_ := (Option.bind_some _ _).symm.trans H; with_reducible exact H2_) | with_reducible exact H | (rw [hy207]; exact H) | exact H
      have Ny207 := Aside0.mk hy207
      clear hy207
      have H' := Aside0.mk H
      clear H
      go_enter Try.func58, Try.ntmps58
      go_wp2_with (first | ((with_reducible refine gate_dst (N := 11) rfl ?_); refine Kd.R_make (Kd.int .u32) _ 32 rfl (N := 11) rfl 22 _ _ rfl (l0.length : Int) rfl rfl Try.underlying22 (.int .u32 0) 4 info32 rfl (by decide) (by omega) 0 (ok := fun _ => True) (okp := fun _ => True) rfl (fun _ hk => hk) trivial (of_decide_eq_true (by first | (with_reducible assumption) | assumption)) (Nat.le_trans (Nat.mul_le_mul_right _ (of_decide_eq_true (by first | (with_reducible assumption) | assumption) : (l0.length : Int).toNat ≤ 70368744177664)) (by omega)) (Below.refl _ _) (Nat.le_refl _) ?_; intro v208 w5 ho6 hb hg_ hnew_; clear hg_ hnew_; (first | rw [← Ny207.out] at ho6 | (simp only [Int.reduceToNat] at ho6; rw [← Ny207.out] at ho6)); have n0_ := Aside0.mk (Kd.R_lower ho6 (below_size (by repeat (first | (with_reducible first | exact HB.out | apply below_alloc | apply pw_below_drewN | apply below_drew1) | exact HB.out)))); have n1_ := Aside0.mk (below_step (by repeat (first | (with_reducible first | exact HB.out | apply below_alloc | apply pw_below_drewN | apply below_drew1) | exact HB.out)) hb); clear HB; have HO209 := n0_; have HB := n1_; clear n0_ n1_; clear hb ho6))
      go_loopg [14] k (fun kq v14 w' => ∃ (x5_1 : List Int) (x14_1 : Int), v14 = .int .i64 x14_1 ∧ Aside0 (nat_shr.l0 kq l0 a1 x5_1 l0 (l0.length : Int) x14_1 = some r) ∧ Aside0 (kq ≤ k) ∧ Aside0 (Kd.R (Kd.int .u32) 32 w' w.heap.size (fun _ => True) v208 x5_1) ∧ Aside0 (Below w.heap.size w w'))
      case atStart => exact ⟨(y207), (0), (by first | rfl | (simp; done) | (simp [*]; done)), H', ⟨Nat.le_refl _⟩, ⟨by (with_reducible repeat (first | apply Kd.R_alloc | apply Kd.R_drewN | apply Kd.R_drew)); exact HO209.out⟩, ⟨by repeat (first | (with_reducible first | exact HB.out | apply below_alloc | apply pw_below_drewN | apply below_drew1) | exact HB.out)⟩⟩
      case round =>
        clear H'
        try clear p2
        try clear c3
        try clear c3b0
        try clear c3b1
        try clear c4
        try clear c4b0
        try clear c4b1
        try clear c5
        obtain ⟨x5_1, x14_1, rfl, HA, HK1, HO_5, HB⟩ := hrel
        cases gk with
        | zero => exact absurd HA.out (by simp [nat_shr.l0])
        | succ k1 =>
          have H := HA.out
          clear HA
          simp only [nat_shr.l0] at H
          by_cases c7 : x14_1 < (l0.length : Int)
          · rw [if_pos c7] at H
            have c7b0 : decide (x14_1 < (l0.length : Int)) = true := decide_eq_true c7
            clear c7
            by_cases c8 : 0 ≤ x14_1
            · rw [if_pos c8] at H
              have c8b0 : decide (0 ≤ x14_1) = true := decide_eq_true c8
              clear c8
              by_cases c9 : x14_1 < (l0.length : Int)
              · rw [if_pos c9] at H
                have c9b0 : decide (x14_1 < (l0.length : Int)) = true := decide_eq_true c9
                clear c9
                by_cases c10 : (wrap64 (x14_1 + 1)) < (l0.length : Int)
                · rw [if_pos c10] at H
                  have c10b0 : decide ((wrap64 (x14_1 + 1)) < (l0.length : Int)) = true := decide_eq_true c10
                  clear c10
                  obtain ⟨ji11, hji11⟩ : ∃ j_ : Int, (wrap64 (x14_1 + 1)) = j_ := ⟨_, rfl⟩
                  replace H : (if 0 ≤ (ji11) then (if 0 ≤ a1 then (if x14_1 < (x5_1.length : Int) then (nat_shr.l0 k1 l0 a1 (x5_1.set (x14_1 : Int).toNat ((shr .u64 (Go.bits .or .u64 (IntKind.u64.wrap ((IntKind.u64.wrap (rd l0 (ji11))) * 4294967296)) (IntKind.u64.wrap (rd l0 x14_1))) a1) % 4294967296)) l0 (l0.length : Int) ji11) else (none)) else (none)) else (none)) = some r := by first | (rw [hji11] at H; exact H) | (simp only [hji11] at H ⊢; exact H)
                  (try rw [hji11] at c10b0)
                  have hji11w : (IntKind.i64.wrap (x14_1 + 1)) = ji11 := (i64_w _).trans hji11
                  by_cases c12 : 0 ≤ (ji11)
                  · rw [if_pos c12] at H
                    have c12b0 : decide (0 ≤ (ji11)) = true := decide_eq_true c12
                    clear c12
                    by_cases c13 : 0 ≤ a1
                    · rw [if_pos c13] at H
                      have c13b0 := eq_true c13
                      have c13b1 : decide (0 ≤ a1) = true := decide_eq_true c13
                      clear c13
                      obtain ⟨ji14, hji14⟩ : ∃ j_ : Int, (shr .u64 (Go.bits .or .u64 (IntKind.u64.wrap ((IntKind.u64.wrap (rd l0 (ji11))) * 4294967296)) (IntKind.u64.wrap (rd l0 x14_1))) a1) = j_ := ⟨_, rfl⟩
                      replace H : (if x14_1 < (x5_1.length : Int) then (nat_shr.l0 k1 l0 a1 (x5_1.set (x14_1 : Int).toNat ((ji14) % 4294967296)) l0 (l0.length : Int) ji11) else (none)) = some r := by first | (rw [hji14] at H; exact H) | (simp only [hji14] at H ⊢; exact H)
                      have hji14_ : ((Go.bits .or .u64 (IntKind.u64.wrap ((IntKind.u64.wrap (rd l0 (ji11))) * 4294967296)) (IntKind.u64.wrap (rd l0 x14_1))) / 2 ^ min a1.toNat 64) = ji14 := hji14
                      have hji14z : a1 ≤ 64 → ((Go.bits .or .u64 (IntKind.u64.wrap ((IntKind.u64.wrap (rd l0 (ji11))) * 4294967296)) (IntKind.u64.wrap (rd l0 x14_1))) / 2 ^ a1.toNat) = ji14 := shr_small hji14
                      by_cases c15 : x14_1 < (x5_1.length : Int)
                      · rw [if_pos c15] at H
                        have c15b0 : decide (x14_1 < (x5_1.length : Int)) = true := decide_eq_true c15
                        clear c15
                        obtain ⟨y212, hy212⟩ : ∃ y_ : List Int, y_ = (x5_1.set (x14_1 : Int).toNat ((ji14) % 4294967296)) := ⟨_, rfl⟩
                        replace H : (nat_shr.l0 k1 l0 a1 y212 l0 (l0.length : Int) ji11) = some r := by first | (rw [hy212]; with_reducible exact H) | (have H2_ := (Option.bind_some _ _).symm.trans H; rw [hy212]; with_reducible exact H2_) | (have H2_ := (Option.bind_some _ _).symm.trans H; with_reducible exact H2_) | with_reducible exact H | (rw [hy212]; exact H) | exact H
                        have Ny212 := Aside0.mk hy212
                        clear hy212
                        have H' := Aside0.mk H
                        clear H
                        have p210 : 0 ≤ (x14_1 : Int) := of_decide_eq_true (by first | (with_reducible assumption) | assumption)
                        have q210 : x14_1 < (l0.length : Int) := of_decide_eq_true (by first | (with_reducible assumption) | assumption)
                        obtain ⟨ad210, e210, hx210_0⟩ := Kd.at_int HR0.out x14_1 p210 q210
                        cases e210
                        replace hx210_0 := (HB.out.cell (World.block_lt_of_cell? w _ hx210_0)).trans hx210_0
                        replace p210 := eq_true p210
                        replace q210 := eq_true q210
                        have p211 : 0 ≤ ((ji11) : Int) := of_decide_eq_true (by first | (with_reducible assumption) | assumption)
                        have q211 : (ji11) < (l0.length : Int) := of_decide_eq_true (by first | (with_reducible assumption) | assumption)
                        obtain ⟨ad211, e211, hx211_0⟩ := Kd.at_int HR0.out (ji11) p211 q211
                        obtain rfl : ad210 = ad211 := (by injection e211)
                        replace hx211_0 := (HB.out.cell (World.block_lt_of_cell? w _ hx211_0)).trans hx211_0
                        replace p211 := eq_true p211
                        replace q211 := eq_true q211
                        have p16 : 0 ≤ (x14_1 : Int) := of_decide_eq_true (by first | (with_reducible assumption) | assumption)
                        have q16 : (x14_1 : Int) < ((x5_1.length : Int) : Int) := of_decide_eq_true (by first | (with_reducible assumption) | assumption)
                        obtain ⟨go16, co16, eo16, gb16, gl16, cl16, HG16⟩ := Kd.R_form HO_5.out (by omega)
                        (first | cases eo16 | (injection eo16 with ea_ en_ ec_; (first | subst ea_ | (injection ea_ with ea_; subst ea_)); subst ec_; clear en_))
                        have GB16 := Aside0.mk gb16
                        have GG16 := Aside0.mk HG16
                        clear gb16 gl16 HG16
                        obtain ⟨hx16_0, hf16_0⟩ := Kd.R_celln 0 HO_5.out (x14_1 : Int) p16 q16
                        replace p16 := eq_true p16
                        replace q16 := eq_true q16
                        have HP17 := Kd.R_putg HO_5.out (x14_1 : Int) ((ji14) % 4294967296)
                        go_wp2_with (first | ((with_reducible refine gate_store (t := 32) (p := 40) rfl ?_); refine store_event (t := 32) (p := 40) (v := ?vo_w18) (w1 := (wr.setCell ⟨go16, (x14_1 : Int).toNat, none⟩ (.int .u32 ((ji14) % 4294967296)))) ?hg ?ho ?hn ?hr ?_; (case ho => rfl); (case hg => rfl); (case hn => rfl); (case hr => first | (go_simp; done) | (go_simp; rfl)); intro w18 hw; have hg : wr.grownBy w18 (some go16) := (by rw [hw]; exact HP17.2); have hp_ : Kd.R (Kd.int .u32) 32 w18 w.heap.size (fun _ => True) (.slice (some ⟨go16, 0, none⟩) x5_1.length co16) y212 := (by rw [hw, Ny212.out]; exact HP17.1); clear HP17; have n0_ := Aside0.mk (hp_); have n1_ := Aside0.mk ((by rw [hw]; exact below_set (HB.out) GB16.out : Below w.heap.size w w18)); clear HO_5; clear HB; have HO_5 := n0_; have HB := n1_; clear n0_ n1_; clear hg hw hp_))
                        go_roundg k1
                        case measure => have := HK1.out; omega
                        case rel => exact ⟨(y212), (ji11), (by first | rfl | (simp; done) | (simp only [← hji11] <;> (first | rfl | simp)) | (simp [*]; done)), H', ⟨by have := HK1.out; omega⟩, ⟨by (with_reducible repeat (first | apply Kd.R_alloc | apply Kd.R_drewN | apply Kd.R_drew)); exact HO_5.out⟩, ⟨by repeat (first | (with_reducible first | exact HB.out | apply below_alloc | apply pw_below_drewN | apply below_drew1) | exact HB.out)⟩⟩
                      · rw [if_neg c15] at H
                        exact absurd H (by simp)
                    · rw [if_neg c13] at H
                      exact absurd H (by simp)
                  · rw [if_neg c12] at H
                    exact absurd H (by simp)
                · rw [if_neg c10] at H
                  have c10b0 : decide ((wrap64 (x14_1 + 1)) < (l0.length : Int)) = false := decide_eq_false c10
                  clear c10
                  by_cases c19 : 0 ≤ a1
                  · rw [if_pos c19] at H
                    have c19b0 := eq_true c19
                    have c19b1 : decide (0 ≤ a1) = true := decide_eq_true c19
                    clear c19
                    obtain ⟨ji20, hji20⟩ : ∃ j_ : Int, (shr .u64 (Go.bits .or .u64 0 (IntKind.u64.wrap (rd l0 x14_1))) a1) = j_ := ⟨_, rfl⟩
                    replace H : (if x14_1 < (x5_1.length : Int) then (nat_shr.l0 k1 l0 a1 (x5_1.set (x14_1 : Int).toNat ((ji20) % 4294967296)) l0 (l0.length : Int) (wrap64 (x14_1 + 1))) else (none)) = some r := by first | (rw [hji20] at H; exact H) | (simp only [hji20] at H ⊢; exact H)
                    have hji20_ : ((Go.bits .or .u64 0 (IntKind.u64.wrap (rd l0 x14_1))) / 2 ^ min a1.toNat 64) = ji20 := hji20
                    have hji20z : a1 ≤ 64 → ((Go.bits .or .u64 0 (IntKind.u64.wrap (rd l0 x14_1))) / 2 ^ a1.toNat) = ji20 := shr_small hji20
                    by_cases c21 : x14_1 < (x5_1.length : Int)
                    · rw [if_pos c21] at H
                      have c21b0 : decide (x14_1 < (x5_1.length : Int)) = true := decide_eq_true c21
                      clear c21
                      obtain ⟨y213, hy213⟩ : ∃ y_ : List Int, y_ = (x5_1.set (x14_1 : Int).toNat ((ji20) % 4294967296)) := ⟨_, rfl⟩
                      replace H : (nat_shr.l0 k1 l0 a1 y213 l0 (l0.length : Int) (wrap64 (x14_1 + 1))) = some r := by first | (rw [hy213]; with_reducible exact H) | (have H2_ := (Option.bind_some _ _).symm.trans H; rw [hy213]; with_reducible exact H2_) | (have H2_ := (Option.bind_some _ _).symm.trans H; with_reducible exact H2_) | with_reducible exact H | (rw [hy213]; exact H) | exact H
                      have Ny213 := Aside0.mk hy213
                      clear hy213
                      have H' := Aside0.mk H
                      clear H
                      have p210 : 0 ≤ (x14_1 : Int) := of_decide_eq_true (by first | (with_reducible assumption) | assumption)
                      have q210 : x14_1 < (l0.length : Int) := of_decide_eq_true (by first | (with_reducible assumption) | assumption)
                      obtain ⟨ad210, e210, hx210_0⟩ := Kd.at_int HR0.out x14_1 p210 q210
                      cases e210
                      replace hx210_0 := (HB.out.cell (World.block_lt_of_cell? w _ hx210_0)).trans hx210_0
                      replace p210 := eq_true p210
                      replace q210 := eq_true q210
                      have p22 : 0 ≤ (x14_1 : Int) := of_decide_eq_true (by first | (with_reducible assumption) | assumption)
                      have q22 : (x14_1 : Int) < ((x5_1.length : Int) : Int) := of_decide_eq_true (by first | (with_reducible assumption) | assumption)
                      obtain ⟨go22, co22, eo22, gb22, gl22, cl22, HG22⟩ := Kd.R_form HO_5.out (by omega)
                      (first | cases eo22 | (injection eo22 with ea_ en_ ec_; (first | subst ea_ | (injection ea_ with ea_; subst ea_)); subst ec_; clear en_))
                      have GB22 := Aside0.mk gb22
                      have GG22 := Aside0.mk HG22
                      clear gb22 gl22 HG22
                      obtain ⟨hx22_0, hf22_0⟩ := Kd.R_celln 0 HO_5.out (x14_1 : Int) p22 q22
                      replace p22 := eq_true p22
                      replace q22 := eq_true q22
                      have HP23 := Kd.R_putg HO_5.out (x14_1 : Int) ((ji20) % 4294967296)
                      go_wp2_with (first | ((with_reducible refine gate_store (t := 32) (p := 40) rfl ?_); refine store_event (t := 32) (p := 40) (v := ?vo_w24) (w1 := (wr.setCell ⟨go22, (x14_1 : Int).toNat, none⟩ (.int .u32 ((ji20) % 4294967296)))) ?hg ?ho ?hn ?hr ?_; (case ho => rfl); (case hg => rfl); (case hn => rfl); (case hr => first | (go_simp; done) | (go_simp; rfl)); intro w24 hw; have hg : wr.grownBy w24 (some go22) := (by rw [hw]; exact HP23.2); have hp_ : Kd.R (Kd.int .u32) 32 w24 w.heap.size (fun _ => True) (.slice (some ⟨go22, 0, none⟩) x5_1.length co22) y213 := (by rw [hw, Ny213.out]; exact HP23.1); clear HP23; have n0_ := Aside0.mk (hp_); have n1_ := Aside0.mk ((by rw [hw]; exact below_set (HB.out) GB22.out : Below w.heap.size w w24)); clear HO_5; clear HB; have HO_5 := n0_; have HB := n1_; clear n0_ n1_; clear hg hw hp_))
                      go_roundg k1
                      case measure => have := HK1.out; omega
                      case rel => exact ⟨(y213), (wrap64 (x14_1 + 1)), (by first | rfl | (simp; done) | (simp [*]; done)), H', ⟨by have := HK1.out; omega⟩, ⟨by (with_reducible repeat (first | apply Kd.R_alloc | apply Kd.R_drewN | apply Kd.R_drew)); exact HO_5.out⟩, ⟨by repeat (first | (with_reducible first | exact HB.out | apply below_alloc | apply pw_below_drewN | apply below_drew1) | exact HB.out)⟩⟩
                    · rw [if_neg c21] at H
                      exact absurd H (by simp)
                  · rw [if_neg c19] at H
                    exact absurd H (by simp)
              · rw [if_neg c9] at H
                exact absurd H (by simp)
            · rw [if_neg c8] at H
              exact absurd H (by simp)
          · rw [if_neg c7] at H
            have c7b0 : decide (x14_1 < (l0.length : Int)) = false := decide_eq_false c7
            clear c7
            replace H := Option.bind_eq_some_iff.mp H
            obtain ⟨t214, A250, H⟩ := H
            replace H : (some t214) = some r := H
            have A25 := Aside0.mk A250
            clear A250
            obtain rfl := Option.some.inj H
            obtain ⟨Ao26, co26, eo26⟩ := Kd.R_slice HO_5.out
            subst eo26
            go_wp2_with (first | ((with_reducible refine gate_callee (f := 42) rfl ?_); refine goesL_ (some 43) rfl rfl Try.func42 (by kernel_rfl) rfl #[.slice Ao26 x5_1.length co26] rfl (by (try simp only [List.map_toArray, List.map_cons, List.map_nil]); first | done | rfl | (simp only [List.length_drop, List.length_take]; rfl)) ?_; (with_reducible refine (nat_trim.calls _ _ x5_1 t214 _ ?side1 ?side2 A25.out).mono ?_); (case side1 => repeat (first | exact (Kd.R_reads' HO_5.out).2.2 | (with_reducible refine Kd.C_alloc ?_ _) | (with_reducible refine Kd.C_drewN ?_ _) | (with_reducible refine Kd.C_drew ?_))); (case side2 => exact (Kd.R_reads' HO_5.out).2.1); rintro e w' ⟨rfl, ⟨nd, rfl⟩⟩; refine ⟨_, rfl, ?_⟩; have HO216 := Aside0.mk (nat_trim.R HO_5.out A25.out); clear HO_5))
            go_ret
            exact ⟨_, by first | rfl | (simp [errW_none, errW_some] <;> rfl) | (simp [*, errW_none, errW_some] <;> rfl), by (with_reducible repeat (first | apply Kd.R_alloc | apply Kd.R_drewN | apply Kd.R_drew)); exact HO216.out, by repeat (first | (with_reducible first | exact HB.out | apply below_alloc | apply pw_below_drewN | apply below_drew1) | exact HB.out)⟩
    · rw [if_neg c4] at H
      exact absurd H (by simp)
  · rw [if_neg c3] at H
    exact absurd H (by simp)

end Go.Proofs.Ytplioajciapojaa.Pq
