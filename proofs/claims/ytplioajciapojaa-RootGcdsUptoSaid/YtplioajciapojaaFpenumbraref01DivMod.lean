-- written by a program of this project, over the kit's print
import Derived.Test.YtplioajciapojaaPqx0
import Derived.Test.YtplioajciapojaaPqd
import Derived.Test.YtplioajciapojaaFpenumbraref01Add
import Derived.Test.YtplioajciapojaaFpenumbraref01Cmp
import Derived.Test.YtplioajciapojaaFpenumbraref01Half
import Derived.Test.YtplioajciapojaaFpenumbraref01Mul
import Derived.Test.YtplioajciapojaaFpenumbraref01Sub
import Derived.Test.YtplioajciapojaaFpenumbraref01Zero
import Derived.Test.YtplioajciapojaaFpenumbraref01at
import Derived.Test.YtplioajciapojaaPqx1
namespace Go.Proofs.Ytplioajciapojaa.Pq
open Go.RowKit Go.Proofs.YtplioajciapojaaW.PrintWords Go.Proofs.YtplioajciapojaaW.PrintLast Go.Proofs.YtplioajciapojaaW.PrintMore
attribute [local go_sem] max2_int min2_int max_two min_two max_three min_three max_four min_four   -- for this text's walks alone
set_option linter.unusedVariables false
set_option linter.unusedSimpArgs false

/-! ### penumbraref01_DivMod: function 25 -/
theorem penumbraref01_DivMod.mono_l : ∀ k, (∀ y0 y1 y2, LeO (penumbraref01_DivMod.l0 k y0 y1 y2) (penumbraref01_DivMod.l0 (k + 1) y0 y1 y2)) ∧ (∀ y0 y1 y2 y3 y4 y5, LeO (penumbraref01_DivMod.l1 k y0 y1 y2 y3 y4 y5) (penumbraref01_DivMod.l1 (k + 1) y0 y1 y2 y3 y4 y5)) ∧ (∀ y0 y1 y2 y3 y4 y5 y6 y7 y8 y9, LeO (penumbraref01_DivMod.j2 k y0 y1 y2 y3 y4 y5 y6 y7 y8 y9) (penumbraref01_DivMod.j2 (k + 1) y0 y1 y2 y3 y4 y5 y6 y7 y8 y9)) ∧ (∀ y0 y1 y2 y3 y4 y5 y6 y7, LeO (penumbraref01_DivMod.j3 k y0 y1 y2 y3 y4 y5 y6 y7) (penumbraref01_DivMod.j3 (k + 1) y0 y1 y2 y3 y4 y5 y6 y7)) ∧ (∀ y0 y1 y2 y3 y4 y5 y6 y7, LeO (penumbraref01_DivMod.j4 k y0 y1 y2 y3 y4 y5 y6 y7) (penumbraref01_DivMod.j4 (k + 1) y0 y1 y2 y3 y4 y5 y6 y7)) ∧ (∀ y0 y1 y2 y3, LeO (penumbraref01_DivMod.l2 k y0 y1 y2 y3) (penumbraref01_DivMod.l2 (k + 1) y0 y1 y2 y3))
  | 0 => ⟨fun _ _ _ r h => by simp [penumbraref01_DivMod.l0] at h, fun _ _ _ _ _ _ r h => by simp [penumbraref01_DivMod.l1] at h, fun _ _ _ _ _ _ _ _ _ _ r h => by simp [penumbraref01_DivMod.j2] at h, fun _ _ _ _ _ _ _ _ r h => by simp [penumbraref01_DivMod.j3] at h, fun _ _ _ _ _ _ _ _ r h => by simp [penumbraref01_DivMod.j4] at h, fun _ _ _ _ r h => by simp [penumbraref01_DivMod.l2] at h⟩
  | k + 1 => by
    obtain ⟨ih0, ih1, ih2, ih3, ih4, ih5⟩ := penumbraref01_DivMod.mono_l k
    refine ⟨?_, ?_, ?_, ?_, ?_, ?_⟩
    · intro y0 y1 y2
      unfold penumbraref01_DivMod.l0
      repeat' first
      | (with_reducible exact ih0 _ _ _)
      | (with_reducible exact ih1 _ _ _ _ _ _)
      | (with_reducible exact ih2 _ _ _ _ _ _ _ _ _ _)
      | (with_reducible exact ih3 _ _ _ _ _ _ _ _)
      | (with_reducible exact ih4 _ _ _ _ _ _ _ _)
      | (with_reducible exact ih5 _ _ _ _)
      | (with_reducible exact penumbraref01_Add.mono _ _ _)
      | (with_reducible exact penumbraref01_Cmp.mono _ _ _)
      | (with_reducible exact penumbraref01_Double.mono _ _ _)
      | (with_reducible exact penumbraref01_Half.mono _ _)
      | (with_reducible exact penumbraref01_Mul.mono _ _ _)
      | (with_reducible exact penumbraref01_Norm.mono _ _)
      | (with_reducible exact penumbraref01_Sub.mono _ _ _)
      | (with_reducible exact penumbraref01_Zero.mono _ _)
      | (with_reducible exact LeO.refl _)
      | (with_reducible exact LeO.none _)
      | (with_reducible refine LeO.ite ?_ ?_)
      | (with_reducible refine LeO.bind ?_ (fun _ => ?_))
      | exact ih0 _ _ _
      | exact ih1 _ _ _ _ _ _
      | exact ih2 _ _ _ _ _ _ _ _ _ _
      | exact ih3 _ _ _ _ _ _ _ _
      | exact ih4 _ _ _ _ _ _ _ _
      | exact ih5 _ _ _ _
      | exact penumbraref01_Add.mono _ _ _
      | exact penumbraref01_Cmp.mono _ _ _
      | exact penumbraref01_Double.mono _ _ _
      | exact penumbraref01_Half.mono _ _
      | exact penumbraref01_Mul.mono _ _ _
      | exact penumbraref01_Norm.mono _ _
      | exact penumbraref01_Sub.mono _ _ _
      | exact penumbraref01_Zero.mono _ _
      | exact LeO.none _
      | refine LeO.ite ?_ ?_
      | refine LeO.bind ?_ (fun _ => ?_)
    · intro y0 y1 y2 y3 y4 y5
      unfold penumbraref01_DivMod.l1
      repeat' first
      | (with_reducible exact ih0 _ _ _)
      | (with_reducible exact ih1 _ _ _ _ _ _)
      | (with_reducible exact ih2 _ _ _ _ _ _ _ _ _ _)
      | (with_reducible exact ih3 _ _ _ _ _ _ _ _)
      | (with_reducible exact ih4 _ _ _ _ _ _ _ _)
      | (with_reducible exact ih5 _ _ _ _)
      | (with_reducible exact penumbraref01_Add.mono _ _ _)
      | (with_reducible exact penumbraref01_Cmp.mono _ _ _)
      | (with_reducible exact penumbraref01_Double.mono _ _ _)
      | (with_reducible exact penumbraref01_Half.mono _ _)
      | (with_reducible exact penumbraref01_Mul.mono _ _ _)
      | (with_reducible exact penumbraref01_Norm.mono _ _)
      | (with_reducible exact penumbraref01_Sub.mono _ _ _)
      | (with_reducible exact penumbraref01_Zero.mono _ _)
      | (with_reducible exact LeO.refl _)
      | (with_reducible exact LeO.none _)
      | (with_reducible refine LeO.ite ?_ ?_)
      | (with_reducible refine LeO.bind ?_ (fun _ => ?_))
      | exact ih0 _ _ _
      | exact ih1 _ _ _ _ _ _
      | exact ih2 _ _ _ _ _ _ _ _ _ _
      | exact ih3 _ _ _ _ _ _ _ _
      | exact ih4 _ _ _ _ _ _ _ _
      | exact ih5 _ _ _ _
      | exact penumbraref01_Add.mono _ _ _
      | exact penumbraref01_Cmp.mono _ _ _
      | exact penumbraref01_Double.mono _ _ _
      | exact penumbraref01_Half.mono _ _
      | exact penumbraref01_Mul.mono _ _ _
      | exact penumbraref01_Norm.mono _ _
      | exact penumbraref01_Sub.mono _ _ _
      | exact penumbraref01_Zero.mono _ _
      | exact LeO.none _
      | refine LeO.ite ?_ ?_
      | refine LeO.bind ?_ (fun _ => ?_)
    · intro y0 y1 y2 y3 y4 y5 y6 y7 y8 y9
      unfold penumbraref01_DivMod.j2
      repeat' first
      | (with_reducible exact ih0 _ _ _)
      | (with_reducible exact ih1 _ _ _ _ _ _)
      | (with_reducible exact ih2 _ _ _ _ _ _ _ _ _ _)
      | (with_reducible exact ih3 _ _ _ _ _ _ _ _)
      | (with_reducible exact ih4 _ _ _ _ _ _ _ _)
      | (with_reducible exact ih5 _ _ _ _)
      | (with_reducible exact penumbraref01_Add.mono _ _ _)
      | (with_reducible exact penumbraref01_Cmp.mono _ _ _)
      | (with_reducible exact penumbraref01_Double.mono _ _ _)
      | (with_reducible exact penumbraref01_Half.mono _ _)
      | (with_reducible exact penumbraref01_Mul.mono _ _ _)
      | (with_reducible exact penumbraref01_Norm.mono _ _)
      | (with_reducible exact penumbraref01_Sub.mono _ _ _)
      | (with_reducible exact penumbraref01_Zero.mono _ _)
      | (with_reducible exact LeO.refl _)
      | (with_reducible exact LeO.none _)
      | (with_reducible refine LeO.ite ?_ ?_)
      | (with_reducible refine LeO.bind ?_ (fun _ => ?_))
      | exact ih0 _ _ _
      | exact ih1 _ _ _ _ _ _
      | exact ih2 _ _ _ _ _ _ _ _ _ _
      | exact ih3 _ _ _ _ _ _ _ _
      | exact ih4 _ _ _ _ _ _ _ _
      | exact ih5 _ _ _ _
      | exact penumbraref01_Add.mono _ _ _
      | exact penumbraref01_Cmp.mono _ _ _
      | exact penumbraref01_Double.mono _ _ _
      | exact penumbraref01_Half.mono _ _
      | exact penumbraref01_Mul.mono _ _ _
      | exact penumbraref01_Norm.mono _ _
      | exact penumbraref01_Sub.mono _ _ _
      | exact penumbraref01_Zero.mono _ _
      | exact LeO.none _
      | refine LeO.ite ?_ ?_
      | refine LeO.bind ?_ (fun _ => ?_)
    · intro y0 y1 y2 y3 y4 y5 y6 y7
      unfold penumbraref01_DivMod.j3
      repeat' first
      | (with_reducible exact ih0 _ _ _)
      | (with_reducible exact ih1 _ _ _ _ _ _)
      | (with_reducible exact ih2 _ _ _ _ _ _ _ _ _ _)
      | (with_reducible exact ih3 _ _ _ _ _ _ _ _)
      | (with_reducible exact ih4 _ _ _ _ _ _ _ _)
      | (with_reducible exact ih5 _ _ _ _)
      | (with_reducible exact penumbraref01_Add.mono _ _ _)
      | (with_reducible exact penumbraref01_Cmp.mono _ _ _)
      | (with_reducible exact penumbraref01_Double.mono _ _ _)
      | (with_reducible exact penumbraref01_Half.mono _ _)
      | (with_reducible exact penumbraref01_Mul.mono _ _ _)
      | (with_reducible exact penumbraref01_Norm.mono _ _)
      | (with_reducible exact penumbraref01_Sub.mono _ _ _)
      | (with_reducible exact penumbraref01_Zero.mono _ _)
      | (with_reducible exact LeO.refl _)
      | (with_reducible exact LeO.none _)
      | (with_reducible refine LeO.ite ?_ ?_)
      | (with_reducible refine LeO.bind ?_ (fun _ => ?_))
      | exact ih0 _ _ _
      | exact ih1 _ _ _ _ _ _
      | exact ih2 _ _ _ _ _ _ _ _ _ _
      | exact ih3 _ _ _ _ _ _ _ _
      | exact ih4 _ _ _ _ _ _ _ _
      | exact ih5 _ _ _ _
      | exact penumbraref01_Add.mono _ _ _
      | exact penumbraref01_Cmp.mono _ _ _
      | exact penumbraref01_Double.mono _ _ _
      | exact penumbraref01_Half.mono _ _
      | exact penumbraref01_Mul.mono _ _ _
      | exact penumbraref01_Norm.mono _ _
      | exact penumbraref01_Sub.mono _ _ _
      | exact penumbraref01_Zero.mono _ _
      | exact LeO.none _
      | refine LeO.ite ?_ ?_
      | refine LeO.bind ?_ (fun _ => ?_)
    · intro y0 y1 y2 y3 y4 y5 y6 y7
      unfold penumbraref01_DivMod.j4
      repeat' first
      | (with_reducible exact ih0 _ _ _)
      | (with_reducible exact ih1 _ _ _ _ _ _)
      | (with_reducible exact ih2 _ _ _ _ _ _ _ _ _ _)
      | (with_reducible exact ih3 _ _ _ _ _ _ _ _)
      | (with_reducible exact ih4 _ _ _ _ _ _ _ _)
      | (with_reducible exact ih5 _ _ _ _)
      | (with_reducible exact penumbraref01_Add.mono _ _ _)
      | (with_reducible exact penumbraref01_Cmp.mono _ _ _)
      | (with_reducible exact penumbraref01_Double.mono _ _ _)
      | (with_reducible exact penumbraref01_Half.mono _ _)
      | (with_reducible exact penumbraref01_Mul.mono _ _ _)
      | (with_reducible exact penumbraref01_Norm.mono _ _)
      | (with_reducible exact penumbraref01_Sub.mono _ _ _)
      | (with_reducible exact penumbraref01_Zero.mono _ _)
      | (with_reducible exact LeO.refl _)
      | (with_reducible exact LeO.none _)
      | (with_reducible refine LeO.ite ?_ ?_)
      | (with_reducible refine LeO.bind ?_ (fun _ => ?_))
      | exact ih0 _ _ _
      | exact ih1 _ _ _ _ _ _
      | exact ih2 _ _ _ _ _ _ _ _ _ _
      | exact ih3 _ _ _ _ _ _ _ _
      | exact ih4 _ _ _ _ _ _ _ _
      | exact ih5 _ _ _ _
      | exact penumbraref01_Add.mono _ _ _
      | exact penumbraref01_Cmp.mono _ _ _
      | exact penumbraref01_Double.mono _ _ _
      | exact penumbraref01_Half.mono _ _
      | exact penumbraref01_Mul.mono _ _ _
      | exact penumbraref01_Norm.mono _ _
      | exact penumbraref01_Sub.mono _ _ _
      | exact penumbraref01_Zero.mono _ _
      | exact LeO.none _
      | refine LeO.ite ?_ ?_
      | refine LeO.bind ?_ (fun _ => ?_)
    · intro y0 y1 y2 y3
      unfold penumbraref01_DivMod.l2
      repeat' first
      | (with_reducible exact ih0 _ _ _)
      | (with_reducible exact ih1 _ _ _ _ _ _)
      | (with_reducible exact ih2 _ _ _ _ _ _ _ _ _ _)
      | (with_reducible exact ih3 _ _ _ _ _ _ _ _)
      | (with_reducible exact ih4 _ _ _ _ _ _ _ _)
      | (with_reducible exact ih5 _ _ _ _)
      | (with_reducible exact penumbraref01_Add.mono _ _ _)
      | (with_reducible exact penumbraref01_Cmp.mono _ _ _)
      | (with_reducible exact penumbraref01_Double.mono _ _ _)
      | (with_reducible exact penumbraref01_Half.mono _ _)
      | (with_reducible exact penumbraref01_Mul.mono _ _ _)
      | (with_reducible exact penumbraref01_Norm.mono _ _)
      | (with_reducible exact penumbraref01_Sub.mono _ _ _)
      | (with_reducible exact penumbraref01_Zero.mono _ _)
      | (with_reducible exact LeO.refl _)
      | (with_reducible exact LeO.none _)
      | (with_reducible refine LeO.ite ?_ ?_)
      | (with_reducible refine LeO.bind ?_ (fun _ => ?_))
      | exact ih0 _ _ _
      | exact ih1 _ _ _ _ _ _
      | exact ih2 _ _ _ _ _ _ _ _ _ _
      | exact ih3 _ _ _ _ _ _ _ _
      | exact ih4 _ _ _ _ _ _ _ _
      | exact ih5 _ _ _ _
      | exact penumbraref01_Add.mono _ _ _
      | exact penumbraref01_Cmp.mono _ _ _
      | exact penumbraref01_Double.mono _ _ _
      | exact penumbraref01_Half.mono _ _
      | exact penumbraref01_Mul.mono _ _ _
      | exact penumbraref01_Norm.mono _ _
      | exact penumbraref01_Sub.mono _ _ _
      | exact penumbraref01_Zero.mono _ _
      | exact LeO.none _
      | refine LeO.ite ?_ ?_
      | refine LeO.bind ?_ (fun _ => ?_)
theorem penumbraref01_DivMod.mono : ∀ a0 a1 k, LeO (penumbraref01_DivMod.f k a0 a1) (penumbraref01_DivMod.f (k + 1) a0 a1) := by
  intro a0 a1 k
  obtain ⟨ih0, ih1, ih2, ih3, ih4, ih5⟩ := penumbraref01_DivMod.mono_l k
  unfold penumbraref01_DivMod.f
  repeat' first
      | (with_reducible exact ih0 _ _ _)
      | (with_reducible exact ih1 _ _ _ _ _ _)
      | (with_reducible exact ih2 _ _ _ _ _ _ _ _ _ _)
      | (with_reducible exact ih3 _ _ _ _ _ _ _ _)
      | (with_reducible exact ih4 _ _ _ _ _ _ _ _)
      | (with_reducible exact ih5 _ _ _ _)
      | (with_reducible exact penumbraref01_Add.mono _ _ _)
      | (with_reducible exact penumbraref01_Cmp.mono _ _ _)
      | (with_reducible exact penumbraref01_Double.mono _ _ _)
      | (with_reducible exact penumbraref01_Half.mono _ _)
      | (with_reducible exact penumbraref01_Mul.mono _ _ _)
      | (with_reducible exact penumbraref01_Norm.mono _ _)
      | (with_reducible exact penumbraref01_Sub.mono _ _ _)
      | (with_reducible exact penumbraref01_Zero.mono _ _)
      | (with_reducible exact LeO.refl _)
      | (with_reducible exact LeO.none _)
      | (with_reducible refine LeO.ite ?_ ?_)
      | (with_reducible refine LeO.bind ?_ (fun _ => ?_))
      | exact ih0 _ _ _
      | exact ih1 _ _ _ _ _ _
      | exact ih2 _ _ _ _ _ _ _ _ _ _
      | exact ih3 _ _ _ _ _ _ _ _
      | exact ih4 _ _ _ _ _ _ _ _
      | exact ih5 _ _ _ _
      | exact penumbraref01_Add.mono _ _ _
      | exact penumbraref01_Cmp.mono _ _ _
      | exact penumbraref01_Double.mono _ _ _
      | exact penumbraref01_Half.mono _ _
      | exact penumbraref01_Mul.mono _ _ _
      | exact penumbraref01_Norm.mono _ _
      | exact penumbraref01_Sub.mono _ _ _
      | exact penumbraref01_Zero.mono _ _
      | exact LeO.none _
      | refine LeO.ite ?_ ?_
      | refine LeO.bind ?_ (fun _ => ?_)
set_option maxHeartbeats 8000000 in
set_option maxRecDepth 100000 in
theorem penumbraref01_DivMod.calls (k : Nat) (A0 : Option Addr) (c0 : Nat) (l0 : List Int) (A1 : Option Addr) (c1 : Nat) (l1 : List Int) (r1 : List Int) (r2 : List Int) (r3 : Bool) (w : World) (hr0 : Kd.C (Kd.int .u32) w A0 l0.length l0) (hc0 : l0.length ≤ c0) (hr1 : Kd.C (Kd.int .u32) w A1 l1.length l1) (hc1 : l1.length ≤ c1) (h : penumbraref01_DivMod.f k l0 l1 = some (r1, r2, r3)) :
    Calls Try.prog 25 #[.slice A0 l0.length c0, .slice A1 l1.length c1] w fun e w' => ∃ v0_ v1_ : Value, e = .returned (.tuple #[v0_, v1_, .bool r3]) ∧ Kd.R (Kd.int .u32) 32 w' w.heap.size (fun k_ => some k_ ≠ (v1_ : Value).ownBlock) v0_ r1 ∧ Kd.R (Kd.int .u32) 32 w' w.heap.size (fun k_ => some k_ ≠ (v0_ : Value).ownBlock) v1_ r2 ∧ Below w.heap.size w w' := by
  have HR0 := Aside0.mk hr0
  have HC0 := Aside0.mk hc0
  clear hr0 hc0
  have HR1 := Aside0.mk hr1
  have HC1 := Aside0.mk hc1
  clear hr1 hc1
  have HB := Aside0.mk (Below.refl w.heap.size w)
  have H : ((penumbraref01_Zero.f k l1).bind fun t514 => (if t514 = true then (some (([] : List Int), ([] : List Int), false)) else ((penumbraref01_Norm.f k l1).bind fun t515 => ((penumbraref01_Norm.f k l0).bind fun t518 => (penumbraref01_DivMod.l0 k t515 t518 0))))) = some (r1, r2, r3) := h
  clear h
  replace H := Option.bind_eq_some_iff.mp H
  obtain ⟨t514, A30, H⟩ := H
  replace H : (if t514 = true then (some (([] : List Int), ([] : List Int), false)) else ((penumbraref01_Norm.f k l1).bind fun t515 => ((penumbraref01_Norm.f k l0).bind fun t518 => (penumbraref01_DivMod.l0 k t515 t518 0)))) = some (r1, r2, r3) := H
  have A3 := Aside0.mk A30
  clear A30
  by_cases c4 : t514 = true
  · subst c4
    have H1 : (some (([] : List Int), ([] : List Int), false)) = some (r1, r2, r3) := by rw [if_pos rfl] at H; exact H
    clear H
    have H := H1
    clear H1
    simp only [Option.some.injEq, Prod.mk.injEq] at H
    obtain ⟨rfl, rfl, rfl⟩ := H
    go_enter Try.func25, Try.ntmps25
    go_wp2_with (first | (go_at_call 47; (with_reducible refine (penumbraref01_Zero.calls k _ _ l1 true _ ?side1 ?side2 A3.out).mono ?_); (case side1 => repeat (first | exact HR1.out | (with_reducible refine Kd.C_alloc ?_ _) | (with_reducible refine Kd.C_drewN ?_ _) | (with_reducible refine Kd.C_drew ?_))); (case side2 => exact HC1.out); rintro e w5 ⟨rfl, hb⟩; have n0_ := Aside0.mk (below_step (by repeat (first | (with_reducible first | exact HB.out | apply below_alloc | apply pw_below_drewN | apply below_drew1) | exact HB.out)) hb); clear HB; have HB := n0_; clear n0_; (try clear hb); (try clear hb2); (try clear hk); (try clear hi)))
    repeat (go_quiet (first | (go_at_call 47; (with_reducible refine (penumbraref01_Zero.calls k _ _ l1 true _ ?side1 ?side2 A3.out).mono ?_); (case side1 => repeat (first | exact HR1.out | (with_reducible refine Kd.C_alloc ?_ _) | (with_reducible refine Kd.C_drewN ?_ _) | (with_reducible refine Kd.C_drew ?_))); (case side2 => exact HC1.out); rintro e w5 ⟨rfl, hb⟩; have n0_ := Aside0.mk (below_step (by repeat (first | (with_reducible first | exact HB.out | apply below_alloc | apply pw_below_drewN | apply below_drew1) | exact HB.out)) hb); clear HB; have HB := n0_; clear n0_; (try clear hb); (try clear hb2); (try clear hk); (try clear hi))); try go_wp2_with (first | (go_at_call 47; (with_reducible refine (penumbraref01_Zero.calls k _ _ l1 true _ ?side1 ?side2 A3.out).mono ?_); (case side1 => repeat (first | exact HR1.out | (with_reducible refine Kd.C_alloc ?_ _) | (with_reducible refine Kd.C_drewN ?_ _) | (with_reducible refine Kd.C_drew ?_))); (case side2 => exact HC1.out); rintro e w5 ⟨rfl, hb⟩; have n0_ := Aside0.mk (below_step (by repeat (first | (with_reducible first | exact HB.out | apply below_alloc | apply pw_below_drewN | apply below_drew1) | exact HB.out)) hb); clear HB; have HB := n0_; clear n0_; (try clear hb); (try clear hb2); (try clear hk); (try clear hi))))
    go_ret3
    exact ⟨_, _, by first | rfl | (simp [errW_none, errW_some] <;> rfl) | (simp [*, errW_none, errW_some] <;> rfl), by first | exact Kd.R_nil _ _ _ _ _ | exact Kd.N_nil _ _ _ _ _ | exact Kd.V_nil _ _ _ _ _ | exact Kd.Q_nil _ _ _ _ _ | exact Kd.S_nil _ _ _ _ _, by first | exact Kd.R_nil _ _ _ _ _ | exact Kd.N_nil _ _ _ _ _ | exact Kd.V_nil _ _ _ _ _ | exact Kd.Q_nil _ _ _ _ _ | exact Kd.S_nil _ _ _ _ _, by repeat (first | (with_reducible first | exact HB.out | apply below_alloc | apply pw_below_drewN | apply below_drew1) | exact HB.out)⟩
  · replace c4 := Bool.eq_false_iff.mpr c4
    subst c4
    have H1 : ((penumbraref01_Norm.f k l1).bind fun t515 => ((penumbraref01_Norm.f k l0).bind fun t518 => (penumbraref01_DivMod.l0 k t515 t518 0))) = some (r1, r2, r3) := by rw [if_neg (show ¬ (false = true) by decide)] at H; exact H
    clear H
    have H := H1
    clear H1
    replace H := Option.bind_eq_some_iff.mp H
    obtain ⟨t515, A60, H⟩ := H
    replace H : ((penumbraref01_Norm.f k l0).bind fun t518 => (penumbraref01_DivMod.l0 k t515 t518 0)) = some (r1, r2, r3) := H
    have A6 := Aside0.mk A60
    clear A60
    replace H := Option.bind_eq_some_iff.mp H
    obtain ⟨t518, A70, H⟩ := H
    replace H : (penumbraref01_DivMod.l0 k t515 t518 0) = some (r1, r2, r3) := H
    have A7 := Aside0.mk A70
    clear A70
    have H' := Aside0.mk H
    clear H
    go_enter Try.func25, Try.ntmps25
    go_wp2_with (first | (go_at_call 47; (with_reducible refine (penumbraref01_Zero.calls k _ _ l1 false _ ?side1 ?side2 A3.out).mono ?_); (case side1 => repeat (first | exact HR1.out | (with_reducible refine Kd.C_alloc ?_ _) | (with_reducible refine Kd.C_drewN ?_ _) | (with_reducible refine Kd.C_drew ?_))); (case side2 => exact HC1.out); rintro e w8 ⟨rfl, hb⟩; have n0_ := Aside0.mk (below_step (by repeat (first | (with_reducible first | exact HB.out | apply below_alloc | apply pw_below_drewN | apply below_drew1) | exact HB.out)) hb); clear HB; have HB := n0_; clear n0_; (try clear hb); (try clear hb2); (try clear hk); (try clear hi)) | (go_at_call 33; (with_reducible refine (penumbraref01_Norm.calls k _ _ l1 t515 _ ?side1 ?side2 A6.out).mono ?_); (case side1 => repeat (first | exact (Kd.C_below HR1.out HB.out) | (with_reducible refine Kd.C_alloc ?_ _) | (with_reducible refine Kd.C_drewN ?_ _) | (with_reducible refine Kd.C_drew ?_))); (case side2 => exact HC1.out); rintro e w9 ⟨v516, rfl, ho0, hb⟩; have n0_ := Aside0.mk (Kd.R_lower ho0 (below_size (by repeat (first | (with_reducible first | exact HB.out | apply below_alloc | apply pw_below_drewN | apply below_drew1) | exact HB.out)))); have n1_ := Aside0.mk (below_step (by repeat (first | (with_reducible first | exact HB.out | apply below_alloc | apply pw_below_drewN | apply below_drew1) | exact HB.out)) hb); clear HB; have HO517 := n0_; have HB := n1_; clear n0_ n1_; (try clear hb); (try clear hb2); (try clear hk); (try clear hi); (try clear ho0)) | (go_at_call 33; (with_reducible refine (penumbraref01_Norm.calls k _ _ l0 t518 _ ?side1 ?side2 A7.out).mono ?_); (case side1 => repeat (first | exact (Kd.C_below HR0.out HB.out) | (with_reducible refine Kd.C_alloc ?_ _) | (with_reducible refine Kd.C_drewN ?_ _) | (with_reducible refine Kd.C_drew ?_))); (case side2 => exact HC0.out); rintro e w10 ⟨v519, rfl, ho0, hb⟩; have n0_ := Aside0.mk (Kd.R_elder' (by (with_reducible repeat (first | apply Kd.R_alloc | apply Kd.R_drewN | apply Kd.R_drew)); exact HO517.out) (Kd.R_base ho0) hb); have n1_ := Aside0.mk (Kd.R_lower (Kd.R_new' ho0 (Kd.R_lt (by (with_reducible repeat (first | apply Kd.R_alloc | apply Kd.R_drewN | apply Kd.R_drew)); exact HO517.out))) (below_size (by repeat (first | (with_reducible first | exact HB.out | apply below_alloc | apply pw_below_drewN | apply below_drew1) | exact HB.out)))); have n2_ := Aside0.mk (below_step (by repeat (first | (with_reducible first | exact HB.out | apply below_alloc | apply pw_below_drewN | apply below_drew1) | exact HB.out)) hb); clear HO517; clear HB; have HO517 := n0_; have HO520 := n1_; have HB := n2_; clear n0_ n1_ n2_; (try clear hb); (try clear hb2); (try clear hk); (try clear hi); (try clear ho0)))
    repeat (go_quiet (first | (go_at_call 47; (with_reducible refine (penumbraref01_Zero.calls k _ _ l1 false _ ?side1 ?side2 A3.out).mono ?_); (case side1 => repeat (first | exact HR1.out | (with_reducible refine Kd.C_alloc ?_ _) | (with_reducible refine Kd.C_drewN ?_ _) | (with_reducible refine Kd.C_drew ?_))); (case side2 => exact HC1.out); rintro e w8 ⟨rfl, hb⟩; have n0_ := Aside0.mk (below_step (by repeat (first | (with_reducible first | exact HB.out | apply below_alloc | apply pw_below_drewN | apply below_drew1) | exact HB.out)) hb); clear HB; have HB := n0_; clear n0_; (try clear hb); (try clear hb2); (try clear hk); (try clear hi)) | (go_at_call 33; (with_reducible refine (penumbraref01_Norm.calls k _ _ l1 t515 _ ?side1 ?side2 A6.out).mono ?_); (case side1 => repeat (first | exact (Kd.C_below HR1.out HB.out) | (with_reducible refine Kd.C_alloc ?_ _) | (with_reducible refine Kd.C_drewN ?_ _) | (with_reducible refine Kd.C_drew ?_))); (case side2 => exact HC1.out); rintro e w9 ⟨v516, rfl, ho0, hb⟩; have n0_ := Aside0.mk (Kd.R_lower ho0 (below_size (by repeat (first | (with_reducible first | exact HB.out | apply below_alloc | apply pw_below_drewN | apply below_drew1) | exact HB.out)))); have n1_ := Aside0.mk (below_step (by repeat (first | (with_reducible first | exact HB.out | apply below_alloc | apply pw_below_drewN | apply below_drew1) | exact HB.out)) hb); clear HB; have HO517 := n0_; have HB := n1_; clear n0_ n1_; (try clear hb); (try clear hb2); (try clear hk); (try clear hi); (try clear ho0)) | (go_at_call 33; (with_reducible refine (penumbraref01_Norm.calls k _ _ l0 t518 _ ?side1 ?side2 A7.out).mono ?_); (case side1 => repeat (first | exact (Kd.C_below HR0.out HB.out) | (with_reducible refine Kd.C_alloc ?_ _) | (with_reducible refine Kd.C_drewN ?_ _) | (with_reducible refine Kd.C_drew ?_))); (case side2 => exact HC0.out); rintro e w10 ⟨v519, rfl, ho0, hb⟩; have n0_ := Aside0.mk (Kd.R_elder' (by (with_reducible repeat (first | apply Kd.R_alloc | apply Kd.R_drewN | apply Kd.R_drew)); exact HO517.out) (Kd.R_base ho0) hb); have n1_ := Aside0.mk (Kd.R_lower (Kd.R_new' ho0 (Kd.R_lt (by (with_reducible repeat (first | apply Kd.R_alloc | apply Kd.R_drewN | apply Kd.R_drew)); exact HO517.out))) (below_size (by repeat (first | (with_reducible first | exact HB.out | apply below_alloc | apply pw_below_drewN | apply below_drew1) | exact HB.out)))); have n2_ := Aside0.mk (below_step (by repeat (first | (with_reducible first | exact HB.out | apply below_alloc | apply pw_below_drewN | apply below_drew1) | exact HB.out)) hb); clear HO517; clear HB; have HO517 := n0_; have HO520 := n1_; have HB := n2_; clear n0_ n1_ n2_; (try clear hb); (try clear hb2); (try clear hk); (try clear hi); (try clear ho0))); try go_wp2_with (first | (go_at_call 47; (with_reducible refine (penumbraref01_Zero.calls k _ _ l1 false _ ?side1 ?side2 A3.out).mono ?_); (case side1 => repeat (first | exact HR1.out | (with_reducible refine Kd.C_alloc ?_ _) | (with_reducible refine Kd.C_drewN ?_ _) | (with_reducible refine Kd.C_drew ?_))); (case side2 => exact HC1.out); rintro e w8 ⟨rfl, hb⟩; have n0_ := Aside0.mk (below_step (by repeat (first | (with_reducible first | exact HB.out | apply below_alloc | apply pw_below_drewN | apply below_drew1) | exact HB.out)) hb); clear HB; have HB := n0_; clear n0_; (try clear hb); (try clear hb2); (try clear hk); (try clear hi)) | (go_at_call 33; (with_reducible refine (penumbraref01_Norm.calls k _ _ l1 t515 _ ?side1 ?side2 A6.out).mono ?_); (case side1 => repeat (first | exact (Kd.C_below HR1.out HB.out) | (with_reducible refine Kd.C_alloc ?_ _) | (with_reducible refine Kd.C_drewN ?_ _) | (with_reducible refine Kd.C_drew ?_))); (case side2 => exact HC1.out); rintro e w9 ⟨v516, rfl, ho0, hb⟩; have n0_ := Aside0.mk (Kd.R_lower ho0 (below_size (by repeat (first | (with_reducible first | exact HB.out | apply below_alloc | apply pw_below_drewN | apply below_drew1) | exact HB.out)))); have n1_ := Aside0.mk (below_step (by repeat (first | (with_reducible first | exact HB.out | apply below_alloc | apply pw_below_drewN | apply below_drew1) | exact HB.out)) hb); clear HB; have HO517 := n0_; have HB := n1_; clear n0_ n1_; (try clear hb); (try clear hb2); (try clear hk); (try clear hi); (try clear ho0)) | (go_at_call 33; (with_reducible refine (penumbraref01_Norm.calls k _ _ l0 t518 _ ?side1 ?side2 A7.out).mono ?_); (case side1 => repeat (first | exact (Kd.C_below HR0.out HB.out) | (with_reducible refine Kd.C_alloc ?_ _) | (with_reducible refine Kd.C_drewN ?_ _) | (with_reducible refine Kd.C_drew ?_))); (case side2 => exact HC0.out); rintro e w10 ⟨v519, rfl, ho0, hb⟩; have n0_ := Aside0.mk (Kd.R_elder' (by (with_reducible repeat (first | apply Kd.R_alloc | apply Kd.R_drewN | apply Kd.R_drew)); exact HO517.out) (Kd.R_base ho0) hb); have n1_ := Aside0.mk (Kd.R_lower (Kd.R_new' ho0 (Kd.R_lt (by (with_reducible repeat (first | apply Kd.R_alloc | apply Kd.R_drewN | apply Kd.R_drew)); exact HO517.out))) (below_size (by repeat (first | (with_reducible first | exact HB.out | apply below_alloc | apply pw_below_drewN | apply below_drew1) | exact HB.out)))); have n2_ := Aside0.mk (below_step (by repeat (first | (with_reducible first | exact HB.out | apply below_alloc | apply pw_below_drewN | apply below_drew1) | exact HB.out)) hb); clear HO517; clear HB; have HO517 := n0_; have HO520 := n1_; have HB := n2_; clear n0_ n1_ n2_; (try clear hb); (try clear hb2); (try clear hk); (try clear hi); (try clear ho0))))
    go_loopg [7, 8, 9] k (fun kq v7 v8 v9 w' => ∃ (x7_1 : List Int) (x8_1 : List Int) (x9_1 : Int), v9 = .int .i64 x9_1 ∧ Aside0 (penumbraref01_DivMod.l0 kq x7_1 x8_1 x9_1 = some (r1, r2, r3)) ∧ Aside0 (kq ≤ k) ∧ Aside0 (Kd.R (Kd.int .u32) 32 w' w.heap.size (fun k_ => some k_ ≠ (v8 : Value).ownBlock) v7 x7_1) ∧ Aside0 (Kd.R (Kd.int .u32) 32 w' w.heap.size (fun k_ => some k_ ≠ (v7 : Value).ownBlock) v8 x8_1) ∧ Aside0 (Below w.heap.size w w'))
    case atStart => exact ⟨(t515), (t518), (0), (by first | rfl | (simp; done) | (simp [*]; done)), H', ⟨Nat.le_refl _⟩, ⟨by (with_reducible repeat (first | apply Kd.R_alloc | apply Kd.R_drewN | apply Kd.R_drew)); exact Kd.R_mono HO517.out (fun _ hk => hk.2)⟩, ⟨by (with_reducible repeat (first | apply Kd.R_alloc | apply Kd.R_drewN | apply Kd.R_drew)); exact Kd.R_mono HO520.out (fun _ hk => hk.2)⟩, ⟨by repeat (first | (with_reducible first | exact HB.out | apply below_alloc | apply pw_below_drewN | apply below_drew1) | exact HB.out)⟩⟩
    case round =>
      clear H'
      try clear c1
      try clear c2
      try clear p2
      try clear c4
      obtain ⟨x7_1, x8_1, x9_1, rfl, HA, HK1, HO_7, HO_8, HB⟩ := hrel
      cases gk with
      | zero => exact absurd HA.out (by simp [penumbraref01_DivMod.l0])
      | succ k1 =>
        have H := HA.out
        clear HA
        simp only [penumbraref01_DivMod.l0] at H
        obtain ⟨ji11, hji11⟩ : ∃ j_ : Int, (wrap64 ((x7_1.length : Int) - 1)) = j_ := ⟨_, rfl⟩
        replace H : (if 0 ≤ (ji11) then (if (ji11) < (x7_1.length : Int) then (if (rd x7_1 (ji11)) < 2147483648 then ((penumbraref01_Double.f k1 x7_1 false).bind fun t522 => ((penumbraref01_Double.f k1 x8_1 false).bind fun t525 => (penumbraref01_DivMod.l0 k1 t522 t525 (wrap64 (x9_1 + 1))))) else (penumbraref01_DivMod.l1 k1 x7_1 x8_1 x9_1 (([] : List Int)) (x7_1.length : Int) (IntKind.u64.wrap ((IntKind.u64.wrap (rd x7_1 (ji11))) + 1)))) else (none)) else (none)) = some (r1, r2, r3) := by first | (rw [hji11] at H; exact H) | (simp only [hji11] at H ⊢; exact H)
        have hji11w : (IntKind.i64.wrap ((x7_1.length : Int) - 1)) = ji11 := (i64_w _).trans hji11
        by_cases c12 : 0 ≤ (ji11)
        · rw [if_pos c12] at H
          have c12b0 : decide (0 ≤ (ji11)) = true := decide_eq_true c12
          clear c12
          by_cases c13 : (ji11) < (x7_1.length : Int)
          · rw [if_pos c13] at H
            have c13b0 : decide ((ji11) < (x7_1.length : Int)) = true := decide_eq_true c13
            clear c13
            by_cases c14 : (rd x7_1 (ji11)) < 2147483648
            · rw [if_pos c14] at H
              have c14b0 : decide ((rd x7_1 (ji11)) < 2147483648) = true := decide_eq_true c14
              clear c14
              replace H := Option.bind_eq_some_iff.mp H
              obtain ⟨t522, A150, H⟩ := H
              replace H : ((penumbraref01_Double.f k1 x8_1 false).bind fun t525 => (penumbraref01_DivMod.l0 k1 t522 t525 (wrap64 (x9_1 + 1)))) = some (r1, r2, r3) := H
              have A15 := Aside0.mk A150
              clear A150
              replace H := Option.bind_eq_some_iff.mp H
              obtain ⟨t525, A160, H⟩ := H
              replace H : (penumbraref01_DivMod.l0 k1 t522 t525 (wrap64 (x9_1 + 1))) = some (r1, r2, r3) := H
              have A16 := Aside0.mk A160
              clear A160
              have H' := Aside0.mk H
              clear H
              obtain ⟨Ao17, co17, eo17⟩ := Kd.R_slice HO_7.out
              subst eo17
              have p521 : 0 ≤ ((ji11) : Int) := of_decide_eq_true (by first | (with_reducible assumption) | assumption)
              have q521 : (ji11) < (x7_1.length : Int) := of_decide_eq_true (by first | (with_reducible assumption) | assumption)
              obtain ⟨ad521, e521, hx521_0⟩ := Kd.at_int (Kd.R_reads' HO_7.out).2.2 (ji11) p521 q521
              cases e521
              replace p521 := eq_true p521
              replace q521 := eq_true q521
              go_wp2_with (first | (go_at_call 43; (with_reducible refine (penumbraref01_Double.calls k1 _ _ x7_1 false t522 _ ?side1 ?side2 A15.out).mono ?_); (case side1 => repeat (first | exact (Kd.R_reads' HO_7.out).2.2 | (with_reducible refine Kd.C_alloc ?_ _) | (with_reducible refine Kd.C_drewN ?_ _) | (with_reducible refine Kd.C_drew ?_))); (case side2 => exact (Kd.R_reads' HO_7.out).2.1); rintro e w18 ⟨v523, rfl, ho0, hb⟩; have n0_ := Aside0.mk (Kd.R_elder' (by (with_reducible repeat (first | apply Kd.R_alloc | apply Kd.R_drewN | apply Kd.R_drew)); exact HO_7.out) (Kd.R_base ho0) hb); have n1_ := Aside0.mk (Kd.R_elder' (by (with_reducible repeat (first | apply Kd.R_alloc | apply Kd.R_drewN | apply Kd.R_drew)); exact HO_8.out) (Kd.R_base ho0) hb); have n2_ := Aside0.mk (Kd.R_lower (Kd.R_new' (Kd.R_new' ho0 (Kd.R_lt (by (with_reducible repeat (first | apply Kd.R_alloc | apply Kd.R_drewN | apply Kd.R_drew)); exact HO_7.out))) (Kd.R_lt (by (with_reducible repeat (first | apply Kd.R_alloc | apply Kd.R_drewN | apply Kd.R_drew)); exact HO_8.out))) (below_size (by repeat (first | (with_reducible first | exact HB.out | apply below_alloc | apply pw_below_drewN | apply below_drew1) | exact HB.out)))); have n3_ := Aside0.mk (below_step (by repeat (first | (with_reducible first | exact HB.out | apply below_alloc | apply pw_below_drewN | apply below_drew1) | exact HB.out)) hb); clear HO_7; clear HO_8; clear HB; have HO_7 := n0_; have HO_8 := n1_; have HO524 := n2_; have HB := n3_; clear n0_ n1_ n2_ n3_; (try clear hb); (try clear hb2); (try clear hk); (try clear hi); (try clear ho0); obtain ⟨Ao19, co19, eo19⟩ := Kd.R_slice HO_8.out; subst eo19) | (go_at_call 43; (with_reducible refine (penumbraref01_Double.calls k1 _ _ x8_1 false t525 _ ?side1 ?side2 A16.out).mono ?_); (case side1 => repeat (first | exact (Kd.R_reads' HO_8.out).2.2 | (with_reducible refine Kd.C_alloc ?_ _) | (with_reducible refine Kd.C_drewN ?_ _) | (with_reducible refine Kd.C_drew ?_))); (case side2 => exact (Kd.R_reads' HO_8.out).2.1); rintro e w20 ⟨v526, rfl, ho0, hb⟩; have n0_ := Aside0.mk (Kd.R_elder' (by (with_reducible repeat (first | apply Kd.R_alloc | apply Kd.R_drewN | apply Kd.R_drew)); exact HO_7.out) (Kd.R_base ho0) hb); have n1_ := Aside0.mk (Kd.R_elder' (by (with_reducible repeat (first | apply Kd.R_alloc | apply Kd.R_drewN | apply Kd.R_drew)); exact HO_8.out) (Kd.R_base ho0) hb); have n2_ := Aside0.mk (Kd.R_elder' (by (with_reducible repeat (first | apply Kd.R_alloc | apply Kd.R_drewN | apply Kd.R_drew)); exact HO524.out) (Kd.R_base ho0) hb); have n3_ := Aside0.mk (Kd.R_lower (Kd.R_new' (Kd.R_new' (Kd.R_new' ho0 (Kd.R_lt (by (with_reducible repeat (first | apply Kd.R_alloc | apply Kd.R_drewN | apply Kd.R_drew)); exact HO_7.out))) (Kd.R_lt (by (with_reducible repeat (first | apply Kd.R_alloc | apply Kd.R_drewN | apply Kd.R_drew)); exact HO_8.out))) (Kd.R_lt (by (with_reducible repeat (first | apply Kd.R_alloc | apply Kd.R_drewN | apply Kd.R_drew)); exact HO524.out))) (below_size (by repeat (first | (with_reducible first | exact HB.out | apply below_alloc | apply pw_below_drewN | apply below_drew1) | exact HB.out)))); have n4_ := Aside0.mk (below_step (by repeat (first | (with_reducible first | exact HB.out | apply below_alloc | apply pw_below_drewN | apply below_drew1) | exact HB.out)) hb); clear HO_7; clear HO_8; clear HO524; clear HB; have HO_7 := n0_; have HO_8 := n1_; have HO524 := n2_; have HO527 := n3_; have HB := n4_; clear n0_ n1_ n2_ n3_ n4_; (try clear hb); (try clear hb2); (try clear hk); (try clear hi); (try clear ho0)))
              repeat (go_quiet (first | (go_at_call 43; (with_reducible refine (penumbraref01_Double.calls k1 _ _ x7_1 false t522 _ ?side1 ?side2 A15.out).mono ?_); (case side1 => repeat (first | exact (Kd.R_reads' HO_7.out).2.2 | (with_reducible refine Kd.C_alloc ?_ _) | (with_reducible refine Kd.C_drewN ?_ _) | (with_reducible refine Kd.C_drew ?_))); (case side2 => exact (Kd.R_reads' HO_7.out).2.1); rintro e w18 ⟨v523, rfl, ho0, hb⟩; have n0_ := Aside0.mk (Kd.R_elder' (by (with_reducible repeat (first | apply Kd.R_alloc | apply Kd.R_drewN | apply Kd.R_drew)); exact HO_7.out) (Kd.R_base ho0) hb); have n1_ := Aside0.mk (Kd.R_elder' (by (with_reducible repeat (first | apply Kd.R_alloc | apply Kd.R_drewN | apply Kd.R_drew)); exact HO_8.out) (Kd.R_base ho0) hb); have n2_ := Aside0.mk (Kd.R_lower (Kd.R_new' (Kd.R_new' ho0 (Kd.R_lt (by (with_reducible repeat (first | apply Kd.R_alloc | apply Kd.R_drewN | apply Kd.R_drew)); exact HO_7.out))) (Kd.R_lt (by (with_reducible repeat (first | apply Kd.R_alloc | apply Kd.R_drewN | apply Kd.R_drew)); exact HO_8.out))) (below_size (by repeat (first | (with_reducible first | exact HB.out | apply below_alloc | apply pw_below_drewN | apply below_drew1) | exact HB.out)))); have n3_ := Aside0.mk (below_step (by repeat (first | (with_reducible first | exact HB.out | apply below_alloc | apply pw_below_drewN | apply below_drew1) | exact HB.out)) hb); clear HO_7; clear HO_8; clear HB; have HO_7 := n0_; have HO_8 := n1_; have HO524 := n2_; have HB := n3_; clear n0_ n1_ n2_ n3_; (try clear hb); (try clear hb2); (try clear hk); (try clear hi); (try clear ho0); obtain ⟨Ao19, co19, eo19⟩ := Kd.R_slice HO_8.out; subst eo19) | (go_at_call 43; (with_reducible refine (penumbraref01_Double.calls k1 _ _ x8_1 false t525 _ ?side1 ?side2 A16.out).mono ?_); (case side1 => repeat (first | exact (Kd.R_reads' HO_8.out).2.2 | (with_reducible refine Kd.C_alloc ?_ _) | (with_reducible refine Kd.C_drewN ?_ _) | (with_reducible refine Kd.C_drew ?_))); (case side2 => exact (Kd.R_reads' HO_8.out).2.1); rintro e w20 ⟨v526, rfl, ho0, hb⟩; have n0_ := Aside0.mk (Kd.R_elder' (by (with_reducible repeat (first | apply Kd.R_alloc | apply Kd.R_drewN | apply Kd.R_drew)); exact HO_7.out) (Kd.R_base ho0) hb); have n1_ := Aside0.mk (Kd.R_elder' (by (with_reducible repeat (first | apply Kd.R_alloc | apply Kd.R_drewN | apply Kd.R_drew)); exact HO_8.out) (Kd.R_base ho0) hb); have n2_ := Aside0.mk (Kd.R_elder' (by (with_reducible repeat (first | apply Kd.R_alloc | apply Kd.R_drewN | apply Kd.R_drew)); exact HO524.out) (Kd.R_base ho0) hb); have n3_ := Aside0.mk (Kd.R_lower (Kd.R_new' (Kd.R_new' (Kd.R_new' ho0 (Kd.R_lt (by (with_reducible repeat (first | apply Kd.R_alloc | apply Kd.R_drewN | apply Kd.R_drew)); exact HO_7.out))) (Kd.R_lt (by (with_reducible repeat (first | apply Kd.R_alloc | apply Kd.R_drewN | apply Kd.R_drew)); exact HO_8.out))) (Kd.R_lt (by (with_reducible repeat (first | apply Kd.R_alloc | apply Kd.R_drewN | apply Kd.R_drew)); exact HO524.out))) (below_size (by repeat (first | (with_reducible first | exact HB.out | apply below_alloc | apply pw_below_drewN | apply below_drew1) | exact HB.out)))); have n4_ := Aside0.mk (below_step (by repeat (first | (with_reducible first | exact HB.out | apply below_alloc | apply pw_below_drewN | apply below_drew1) | exact HB.out)) hb); clear HO_7; clear HO_8; clear HO524; clear HB; have HO_7 := n0_; have HO_8 := n1_; have HO524 := n2_; have HO527 := n3_; have HB := n4_; clear n0_ n1_ n2_ n3_ n4_; (try clear hb); (try clear hb2); (try clear hk); (try clear hi); (try clear ho0))); try go_wp2_with (first | (go_at_call 43; (with_reducible refine (penumbraref01_Double.calls k1 _ _ x7_1 false t522 _ ?side1 ?side2 A15.out).mono ?_); (case side1 => repeat (first | exact (Kd.R_reads' HO_7.out).2.2 | (with_reducible refine Kd.C_alloc ?_ _) | (with_reducible refine Kd.C_drewN ?_ _) | (with_reducible refine Kd.C_drew ?_))); (case side2 => exact (Kd.R_reads' HO_7.out).2.1); rintro e w18 ⟨v523, rfl, ho0, hb⟩; have n0_ := Aside0.mk (Kd.R_elder' (by (with_reducible repeat (first | apply Kd.R_alloc | apply Kd.R_drewN | apply Kd.R_drew)); exact HO_7.out) (Kd.R_base ho0) hb); have n1_ := Aside0.mk (Kd.R_elder' (by (with_reducible repeat (first | apply Kd.R_alloc | apply Kd.R_drewN | apply Kd.R_drew)); exact HO_8.out) (Kd.R_base ho0) hb); have n2_ := Aside0.mk (Kd.R_lower (Kd.R_new' (Kd.R_new' ho0 (Kd.R_lt (by (with_reducible repeat (first | apply Kd.R_alloc | apply Kd.R_drewN | apply Kd.R_drew)); exact HO_7.out))) (Kd.R_lt (by (with_reducible repeat (first | apply Kd.R_alloc | apply Kd.R_drewN | apply Kd.R_drew)); exact HO_8.out))) (below_size (by repeat (first | (with_reducible first | exact HB.out | apply below_alloc | apply pw_below_drewN | apply below_drew1) | exact HB.out)))); have n3_ := Aside0.mk (below_step (by repeat (first | (with_reducible first | exact HB.out | apply below_alloc | apply pw_below_drewN | apply below_drew1) | exact HB.out)) hb); clear HO_7; clear HO_8; clear HB; have HO_7 := n0_; have HO_8 := n1_; have HO524 := n2_; have HB := n3_; clear n0_ n1_ n2_ n3_; (try clear hb); (try clear hb2); (try clear hk); (try clear hi); (try clear ho0); obtain ⟨Ao19, co19, eo19⟩ := Kd.R_slice HO_8.out; subst eo19) | (go_at_call 43; (with_reducible refine (penumbraref01_Double.calls k1 _ _ x8_1 false t525 _ ?side1 ?side2 A16.out).mono ?_); (case side1 => repeat (first | exact (Kd.R_reads' HO_8.out).2.2 | (with_reducible refine Kd.C_alloc ?_ _) | (with_reducible refine Kd.C_drewN ?_ _) | (with_reducible refine Kd.C_drew ?_))); (case side2 => exact (Kd.R_reads' HO_8.out).2.1); rintro e w20 ⟨v526, rfl, ho0, hb⟩; have n0_ := Aside0.mk (Kd.R_elder' (by (with_reducible repeat (first | apply Kd.R_alloc | apply Kd.R_drewN | apply Kd.R_drew)); exact HO_7.out) (Kd.R_base ho0) hb); have n1_ := Aside0.mk (Kd.R_elder' (by (with_reducible repeat (first | apply Kd.R_alloc | apply Kd.R_drewN | apply Kd.R_drew)); exact HO_8.out) (Kd.R_base ho0) hb); have n2_ := Aside0.mk (Kd.R_elder' (by (with_reducible repeat (first | apply Kd.R_alloc | apply Kd.R_drewN | apply Kd.R_drew)); exact HO524.out) (Kd.R_base ho0) hb); have n3_ := Aside0.mk (Kd.R_lower (Kd.R_new' (Kd.R_new' (Kd.R_new' ho0 (Kd.R_lt (by (with_reducible repeat (first | apply Kd.R_alloc | apply Kd.R_drewN | apply Kd.R_drew)); exact HO_7.out))) (Kd.R_lt (by (with_reducible repeat (first | apply Kd.R_alloc | apply Kd.R_drewN | apply Kd.R_drew)); exact HO_8.out))) (Kd.R_lt (by (with_reducible repeat (first | apply Kd.R_alloc | apply Kd.R_drewN | apply Kd.R_drew)); exact HO524.out))) (below_size (by repeat (first | (with_reducible first | exact HB.out | apply below_alloc | apply pw_below_drewN | apply below_drew1) | exact HB.out)))); have n4_ := Aside0.mk (below_step (by repeat (first | (with_reducible first | exact HB.out | apply below_alloc | apply pw_below_drewN | apply below_drew1) | exact HB.out)) hb); clear HO_7; clear HO_8; clear HO524; clear HB; have HO_7 := n0_; have HO_8 := n1_; have HO524 := n2_; have HO527 := n3_; have HB := n4_; clear n0_ n1_ n2_ n3_ n4_; (try clear hb); (try clear hb2); (try clear hk); (try clear hi); (try clear ho0))))
              go_roundg k1
              case measure => have := HK1.out; omega
              case rel => exact ⟨(t522), (t525), (wrap64 (x9_1 + 1)), (by first | rfl | (simp; done) | (simp [*]; done)), H', ⟨by have := HK1.out; omega⟩, ⟨by (with_reducible repeat (first | apply Kd.R_alloc | apply Kd.R_drewN | apply Kd.R_drew)); exact Kd.R_mono HO524.out (fun _ hk => hk.2)⟩, ⟨by (with_reducible repeat (first | apply Kd.R_alloc | apply Kd.R_drewN | apply Kd.R_drew)); exact Kd.R_mono HO527.out (fun _ hk => hk.2)⟩, ⟨by repeat (first | (with_reducible first | exact HB.out | apply below_alloc | apply pw_below_drewN | apply below_drew1) | exact HB.out)⟩⟩
            · rw [if_neg c14] at H
              have c14b0 : decide ((rd x7_1 (ji11)) < 2147483648) = false := decide_eq_false c14
              clear c14
              obtain ⟨y528, hy528⟩ : ∃ y_ : List Int, y_ = (([] : List Int)) := ⟨_, rfl⟩
              replace H : (penumbraref01_DivMod.l1 k1 x7_1 x8_1 x9_1 y528 (x7_1.length : Int) (IntKind.u64.wrap ((IntKind.u64.wrap (rd x7_1 (ji11))) + 1))) = some (r1, r2, r3) := by first | (rw [hy528]; with_reducible exact H) | (have H2_ := (Option.bind_some _ _).symm.trans H; rw [hy528]; with_reducible exact H2_) | (have H2_ := (Option.bind_some _ _).symm.trans H; with_reducible exact H2_) | with_reducible exact H | (rw [hy528]; exact H) | exact H
              have Ny528 := Aside0.mk hy528
              clear hy528
              have H' := Aside0.mk H
              clear H
              obtain ⟨Ao21, co21, eo21⟩ := Kd.R_slice HO_7.out
              subst eo21
              have p521 : 0 ≤ ((ji11) : Int) := of_decide_eq_true (by first | (with_reducible assumption) | assumption)
              have q521 : (ji11) < (x7_1.length : Int) := of_decide_eq_true (by first | (with_reducible assumption) | assumption)
              obtain ⟨ad521, e521, hx521_0⟩ := Kd.at_int (Kd.R_reads' HO_7.out).2.2 (ji11) p521 q521
              cases e521
              replace p521 := eq_true p521
              replace q521 := eq_true q521
              go_wp2_with (first | ((with_reducible refine gate_dst (N := 37) rfl ?_); refine Kd.R_lit (Kd.int .u32) _ 32 ?hg (N := 37) ?hd (xs := ([] : List Int)) (inner := []) (ok := fun _ => True) (okp := fun _ => True) ?hr ?hp (fun _ hk => hk) trivial (Below.refl _ _) (Nat.le_refl _) (by simp) ?_; (case hd => rfl); (case hg => rfl); (case hr => first | (go_simp; done) | (go_simp; rfl)); (case hp => exact (Reps.none _ _)); intro v529 w22 ho23 hb hg_ hnew_; clear hg_ hnew_; (first | rw [← Ny528.out] at ho23 | (simp only [Int.reduceToNat] at ho23; rw [← Ny528.out] at ho23)); have n0_ := Aside0.mk (Kd.R_elder' (by (with_reducible repeat (first | apply Kd.R_alloc | apply Kd.R_drewN | apply Kd.R_drew)); exact HO_7.out) (Kd.R_base ho23) hb); have n1_ := Aside0.mk (Kd.R_elder' (by (with_reducible repeat (first | apply Kd.R_alloc | apply Kd.R_drewN | apply Kd.R_drew)); exact HO_8.out) (Kd.R_base ho23) hb); have n2_ := Aside0.mk (Kd.R_lower (Kd.R_new' (Kd.R_new' ho23 (Kd.R_lt (by (with_reducible repeat (first | apply Kd.R_alloc | apply Kd.R_drewN | apply Kd.R_drew)); exact HO_7.out))) (Kd.R_lt (by (with_reducible repeat (first | apply Kd.R_alloc | apply Kd.R_drewN | apply Kd.R_drew)); exact HO_8.out))) (below_size (by repeat (first | (with_reducible first | exact HB.out | apply below_alloc | apply pw_below_drewN | apply below_drew1) | exact HB.out)))); have n3_ := Aside0.mk (below_step (by repeat (first | (with_reducible first | exact HB.out | apply below_alloc | apply pw_below_drewN | apply below_drew1) | exact HB.out)) hb); clear HO_7; clear HO_8; clear HB; have HO_7 := n0_; have HO_8 := n1_; have HO530 := n2_; have HB := n3_; clear n0_ n1_ n2_ n3_; clear hb ho23; have p531 : 0 ≤ ((ji11) : Int) := of_decide_eq_true (by first | (with_reducible assumption) | assumption); have q531 : (ji11) < (x7_1.length : Int) := of_decide_eq_true (by first | (with_reducible assumption) | assumption); obtain ⟨ad531, e531, hx531_0⟩ := Kd.at_int (Kd.R_reads' HO_7.out).2.2 (ji11) p531 q531; obtain rfl : ad521 = ad531 := (by injection e531); replace p531 := eq_true p531; replace q531 := eq_true q531))
              repeat (go_quiet (first | ((with_reducible refine gate_dst (N := 37) rfl ?_); refine Kd.R_lit (Kd.int .u32) _ 32 ?hg (N := 37) ?hd (xs := ([] : List Int)) (inner := []) (ok := fun _ => True) (okp := fun _ => True) ?hr ?hp (fun _ hk => hk) trivial (Below.refl _ _) (Nat.le_refl _) (by simp) ?_; (case hd => rfl); (case hg => rfl); (case hr => first | (go_simp; done) | (go_simp; rfl)); (case hp => exact (Reps.none _ _)); intro v529 w22 ho23 hb hg_ hnew_; clear hg_ hnew_; (first | rw [← Ny528.out] at ho23 | (simp only [Int.reduceToNat] at ho23; rw [← Ny528.out] at ho23)); have n0_ := Aside0.mk (Kd.R_elder' (by (with_reducible repeat (first | apply Kd.R_alloc | apply Kd.R_drewN | apply Kd.R_drew)); exact HO_7.out) (Kd.R_base ho23) hb); have n1_ := Aside0.mk (Kd.R_elder' (by (with_reducible repeat (first | apply Kd.R_alloc | apply Kd.R_drewN | apply Kd.R_drew)); exact HO_8.out) (Kd.R_base ho23) hb); have n2_ := Aside0.mk (Kd.R_lower (Kd.R_new' (Kd.R_new' ho23 (Kd.R_lt (by (with_reducible repeat (first | apply Kd.R_alloc | apply Kd.R_drewN | apply Kd.R_drew)); exact HO_7.out))) (Kd.R_lt (by (with_reducible repeat (first | apply Kd.R_alloc | apply Kd.R_drewN | apply Kd.R_drew)); exact HO_8.out))) (below_size (by repeat (first | (with_reducible first | exact HB.out | apply below_alloc | apply pw_below_drewN | apply below_drew1) | exact HB.out)))); have n3_ := Aside0.mk (below_step (by repeat (first | (with_reducible first | exact HB.out | apply below_alloc | apply pw_below_drewN | apply below_drew1) | exact HB.out)) hb); clear HO_7; clear HO_8; clear HB; have HO_7 := n0_; have HO_8 := n1_; have HO530 := n2_; have HB := n3_; clear n0_ n1_ n2_ n3_; clear hb ho23; have p531 : 0 ≤ ((ji11) : Int) := of_decide_eq_true (by first | (with_reducible assumption) | assumption); have q531 : (ji11) < (x7_1.length : Int) := of_decide_eq_true (by first | (with_reducible assumption) | assumption); obtain ⟨ad531, e531, hx531_0⟩ := Kd.at_int (Kd.R_reads' HO_7.out).2.2 (ji11) p531 q531; obtain rfl : ad521 = ad531 := (by injection e531); replace p531 := eq_true p531; replace q531 := eq_true q531)); try go_wp2_with (first | ((with_reducible refine gate_dst (N := 37) rfl ?_); refine Kd.R_lit (Kd.int .u32) _ 32 ?hg (N := 37) ?hd (xs := ([] : List Int)) (inner := []) (ok := fun _ => True) (okp := fun _ => True) ?hr ?hp (fun _ hk => hk) trivial (Below.refl _ _) (Nat.le_refl _) (by simp) ?_; (case hd => rfl); (case hg => rfl); (case hr => first | (go_simp; done) | (go_simp; rfl)); (case hp => exact (Reps.none _ _)); intro v529 w22 ho23 hb hg_ hnew_; clear hg_ hnew_; (first | rw [← Ny528.out] at ho23 | (simp only [Int.reduceToNat] at ho23; rw [← Ny528.out] at ho23)); have n0_ := Aside0.mk (Kd.R_elder' (by (with_reducible repeat (first | apply Kd.R_alloc | apply Kd.R_drewN | apply Kd.R_drew)); exact HO_7.out) (Kd.R_base ho23) hb); have n1_ := Aside0.mk (Kd.R_elder' (by (with_reducible repeat (first | apply Kd.R_alloc | apply Kd.R_drewN | apply Kd.R_drew)); exact HO_8.out) (Kd.R_base ho23) hb); have n2_ := Aside0.mk (Kd.R_lower (Kd.R_new' (Kd.R_new' ho23 (Kd.R_lt (by (with_reducible repeat (first | apply Kd.R_alloc | apply Kd.R_drewN | apply Kd.R_drew)); exact HO_7.out))) (Kd.R_lt (by (with_reducible repeat (first | apply Kd.R_alloc | apply Kd.R_drewN | apply Kd.R_drew)); exact HO_8.out))) (below_size (by repeat (first | (with_reducible first | exact HB.out | apply below_alloc | apply pw_below_drewN | apply below_drew1) | exact HB.out)))); have n3_ := Aside0.mk (below_step (by repeat (first | (with_reducible first | exact HB.out | apply below_alloc | apply pw_below_drewN | apply below_drew1) | exact HB.out)) hb); clear HO_7; clear HO_8; clear HB; have HO_7 := n0_; have HO_8 := n1_; have HO530 := n2_; have HB := n3_; clear n0_ n1_ n2_ n3_; clear hb ho23; have p531 : 0 ≤ ((ji11) : Int) := of_decide_eq_true (by first | (with_reducible assumption) | assumption); have q531 : (ji11) < (x7_1.length : Int) := of_decide_eq_true (by first | (with_reducible assumption) | assumption); obtain ⟨ad531, e531, hx531_0⟩ := Kd.at_int (Kd.R_reads' HO_7.out).2.2 (ji11) p531 q531; obtain rfl : ad521 = ad531 := (by injection e531); replace p531 := eq_true p531; replace q531 := eq_true q531)))
              go_loopg [8, 10] k1 (fun kq v8 v10 w' => ∃ (x8_2 : List Int) (x10_2 : List Int), Aside0 (penumbraref01_DivMod.l1 kq x7_1 x8_2 x9_1 x10_2 (x7_1.length : Int) (IntKind.u64.wrap ((IntKind.u64.wrap (rd x7_1 (ji11))) + 1)) = some (r1, r2, r3)) ∧ Aside0 (kq ≤ k1) ∧ Aside0 (Kd.R (Kd.int .u32) 32 w' w.heap.size (fun k_ => some k_ ≠ (v8 : Value).ownBlock ∧ some k_ ≠ (v10 : Value).ownBlock) (.slice (some ad521) x7_1.length co21) x7_1) ∧ Aside0 (Kd.R (Kd.int .u32) 32 w' w.heap.size (fun k_ => some k_ ≠ ((.slice (some ad521) x7_1.length co21) : Value).ownBlock ∧ some k_ ≠ (v10 : Value).ownBlock) v8 x8_2) ∧ Aside0 (Kd.R (Kd.int .u32) 32 w' w.heap.size (fun k_ => some k_ ≠ ((.slice (some ad521) x7_1.length co21) : Value).ownBlock ∧ some k_ ≠ (v8 : Value).ownBlock) v10 x10_2) ∧ Aside0 (Below w.heap.size w w'))
              case atStart => exact ⟨(x8_1), (y528), H', ⟨Nat.le_refl _⟩, ⟨by (with_reducible repeat (first | apply Kd.R_alloc | apply Kd.R_drewN | apply Kd.R_drew)); exact HO_7.out⟩, ⟨by (with_reducible repeat (first | apply Kd.R_alloc | apply Kd.R_drewN | apply Kd.R_drew)); exact HO_8.out⟩, ⟨by (with_reducible repeat (first | apply Kd.R_alloc | apply Kd.R_drewN | apply Kd.R_drew)); exact Kd.R_mono HO530.out (fun _ hk => ⟨hk.1.2, hk.2⟩)⟩, ⟨by repeat (first | (with_reducible first | exact HB.out | apply below_alloc | apply pw_below_drewN | apply below_drew1) | exact HB.out)⟩⟩
              case round =>
                clear H'
                try clear c1
                try clear c2
                try clear p2
                try clear c4
                try clear p5
                try clear q5
                try clear hx5
                try clear p6
                try clear c12
                try clear c12b0
                try clear c13
                try clear c13b0
                try clear c14
                try clear c14b0
                try clear hx521_0
                try clear hx531_0
                try clear p2
                try clear p521
                try clear p531
                try clear q521
                try clear q531
                obtain ⟨x8_2, x10_2, HA, HK2, HO_7, HO_8, HO_10, HB⟩ := hrel
                cases gk with
                | zero => exact absurd HA.out (by simp [penumbraref01_DivMod.l1])
                | succ k2 =>
                  have H := HA.out
                  clear HA
                  simp only [penumbraref01_DivMod.l1] at H
                  replace H := Option.bind_eq_some_iff.mp H
                  obtain ⟨t532, A240, H⟩ := H
                  replace H : (if t532 ≥ 0 then (if 0 ≤ (wrap64 ((x8_2.length : Int) - 1)) then (if (wrap64 ((x8_2.length : Int) - 1)) < (x8_2.length : Int) then (if (IntKind.u64.wrap ((IntKind.u64.wrap (rd x7_1 (ji11))) + 1)) = 0 then (none) else (if (IntKind.u64.wrap (Int.tdiv (IntKind.u64.wrap (rd x8_2 (wrap64 ((x8_2.length : Int) - 1)))) (IntKind.u64.wrap ((IntKind.u64.wrap (rd x7_1 (ji11))) + 1)))) = 0 then (penumbraref01_DivMod.j2 k2 x7_1 x8_2 x9_1 x10_2 (x7_1.length : Int) (IntKind.u64.wrap ((IntKind.u64.wrap (rd x7_1 (ji11))) + 1)) (x8_2.length : Int) (wrap64 ((x8_2.length : Int) - (x7_1.length : Int))) (IntKind.u64.wrap (Int.tdiv (IntKind.u64.wrap (rd x8_2 (wrap64 ((x8_2.length : Int) - 1)))) (IntKind.u64.wrap ((IntKind.u64.wrap (rd x7_1 (ji11))) + 1)))) (decide ((x8_2.length : Int) > (x7_1.length : Int)))) else (penumbraref01_DivMod.j2 k2 x7_1 x8_2 x9_1 x10_2 (x7_1.length : Int) (IntKind.u64.wrap ((IntKind.u64.wrap (rd x7_1 (ji11))) + 1)) (x8_2.length : Int) (wrap64 ((x8_2.length : Int) - (x7_1.length : Int))) (IntKind.u64.wrap (Int.tdiv (IntKind.u64.wrap (rd x8_2 (wrap64 ((x8_2.length : Int) - 1)))) (IntKind.u64.wrap ((IntKind.u64.wrap (rd x7_1 (ji11))) + 1)))) false))) else (none)) else (none)) else (penumbraref01_DivMod.l2 k2 x8_2 x9_1 x10_2 0)) = some (r1, r2, r3) := H
                  have A24 := Aside0.mk A240
                  clear A240
                  by_cases c25 : t532 ≥ 0
                  · rw [if_pos c25] at H
                    have c25b0 : decide (0 ≤ t532) = true := decide_eq_true c25
                    clear c25
                    obtain ⟨ji26, hji26⟩ : ∃ j_ : Int, (wrap64 ((x8_2.length : Int) - 1)) = j_ := ⟨_, rfl⟩
                    replace H : (if 0 ≤ (ji26) then (if (ji26) < (x8_2.length : Int) then (if (IntKind.u64.wrap ((IntKind.u64.wrap (rd x7_1 (ji11))) + 1)) = 0 then (none) else (if (IntKind.u64.wrap (Int.tdiv (IntKind.u64.wrap (rd x8_2 (ji26))) (IntKind.u64.wrap ((IntKind.u64.wrap (rd x7_1 (ji11))) + 1)))) = 0 then (penumbraref01_DivMod.j2 k2 x7_1 x8_2 x9_1 x10_2 (x7_1.length : Int) (IntKind.u64.wrap ((IntKind.u64.wrap (rd x7_1 (ji11))) + 1)) (x8_2.length : Int) (wrap64 ((x8_2.length : Int) - (x7_1.length : Int))) (IntKind.u64.wrap (Int.tdiv (IntKind.u64.wrap (rd x8_2 (ji26))) (IntKind.u64.wrap ((IntKind.u64.wrap (rd x7_1 (ji11))) + 1)))) (decide ((x8_2.length : Int) > (x7_1.length : Int)))) else (penumbraref01_DivMod.j2 k2 x7_1 x8_2 x9_1 x10_2 (x7_1.length : Int) (IntKind.u64.wrap ((IntKind.u64.wrap (rd x7_1 (ji11))) + 1)) (x8_2.length : Int) (wrap64 ((x8_2.length : Int) - (x7_1.length : Int))) (IntKind.u64.wrap (Int.tdiv (IntKind.u64.wrap (rd x8_2 (ji26))) (IntKind.u64.wrap ((IntKind.u64.wrap (rd x7_1 (ji11))) + 1)))) false))) else (none)) else (none)) = some (r1, r2, r3) := by first | (rw [hji26] at H; exact H) | (simp only [hji26] at H ⊢; exact H)
                    (try rw [hji26] at A24)
                    have hji26w : (IntKind.i64.wrap ((x8_2.length : Int) - 1)) = ji26 := (i64_w _).trans hji26
                    by_cases c27 : 0 ≤ (ji26)
                    · rw [if_pos c27] at H
                      have c27b0 : decide (0 ≤ (ji26)) = true := decide_eq_true c27
                      clear c27
                      by_cases c28 : (ji26) < (x8_2.length : Int)
                      · rw [if_pos c28] at H
                        have c28b0 : decide ((ji26) < (x8_2.length : Int)) = true := decide_eq_true c28
                        clear c28
                        by_cases c29 : (IntKind.u64.wrap ((IntKind.u64.wrap (rd x7_1 (ji11))) + 1)) = 0
                        · rw [if_pos c29] at H
                          exact absurd H (by simp)
                        · rw [if_neg c29] at H
                          have c29b0 : ((IntKind.u64.wrap ((IntKind.u64.wrap (rd x7_1 (ji11))) + 1)) == 0) = false := beq_eq_false_iff_ne.mpr c29
                          have c29b1 : ((IntKind.u64.wrap ((IntKind.u64.wrap (rd x7_1 (ji11))) + 1)) != 0) = true := bne_iff_ne.mpr c29
                          have HC30 := Aside0.mk H
                          clear H
                          obtain ⟨Ao31, co31, eo31⟩ := Kd.R_slice HO_8.out
                          subst eo31
                          go_upto_region 17 with (first | (go_at_call 32; (with_reducible refine (penumbraref01_Cmp.calls k2 _ _ x8_2 _ _ x7_1 t532 _ ?side1 ?side2 ?side3 ?side4 A24.out).mono ?_); (case side1 => repeat (first | exact (Kd.R_reads' HO_8.out).2.2 | (with_reducible refine Kd.C_alloc ?_ _) | (with_reducible refine Kd.C_drewN ?_ _) | (with_reducible refine Kd.C_drew ?_))); (case side2 => exact (Kd.R_reads' HO_8.out).2.1); (case side3 => repeat (first | exact (Kd.R_reads' HO_7.out).2.2 | (with_reducible refine Kd.C_alloc ?_ _) | (with_reducible refine Kd.C_drewN ?_ _) | (with_reducible refine Kd.C_drew ?_))); (case side4 => exact (Kd.R_reads' HO_7.out).2.1); rintro e w32 ⟨rfl, hb⟩; have n0_ := Aside0.mk (Kd.R_below (by (with_reducible repeat (first | apply Kd.R_alloc | apply Kd.R_drewN | apply Kd.R_drew)); exact HO_7.out) hb); have n1_ := Aside0.mk (Kd.R_below (by (with_reducible repeat (first | apply Kd.R_alloc | apply Kd.R_drewN | apply Kd.R_drew)); exact HO_8.out) hb); have n2_ := Aside0.mk (Kd.R_below (by (with_reducible repeat (first | apply Kd.R_alloc | apply Kd.R_drewN | apply Kd.R_drew)); exact HO_10.out) hb); have n3_ := Aside0.mk (below_step (by repeat (first | (with_reducible first | exact HB.out | apply below_alloc | apply pw_below_drewN | apply below_drew1) | exact HB.out)) hb); clear HO_7; clear HO_8; clear HO_10; clear HB; have HO_7 := n0_; have HO_8 := n1_; have HO_10 := n2_; have HB := n3_; clear n0_ n1_ n2_ n3_; (try clear hb); (try clear hb2); (try clear hk); (try clear hi); have p533 : 0 ≤ ((ji26) : Int) := of_decide_eq_true (by first | (with_reducible assumption) | assumption); have q533 : (ji26) < (x8_2.length : Int) := of_decide_eq_true (by first | (with_reducible assumption) | assumption); obtain ⟨ad533, e533, hx533_0⟩ := Kd.at_int (Kd.R_reads' HO_8.out).2.2 (ji26) p533 q533; cases e533; replace p533 := eq_true p533; replace q533 := eq_true q533))
                          repeat (go_quiet (first | (go_at_call 32; (with_reducible refine (penumbraref01_Cmp.calls k2 _ _ x8_2 _ _ x7_1 t532 _ ?side1 ?side2 ?side3 ?side4 A24.out).mono ?_); (case side1 => repeat (first | exact (Kd.R_reads' HO_8.out).2.2 | (with_reducible refine Kd.C_alloc ?_ _) | (with_reducible refine Kd.C_drewN ?_ _) | (with_reducible refine Kd.C_drew ?_))); (case side2 => exact (Kd.R_reads' HO_8.out).2.1); (case side3 => repeat (first | exact (Kd.R_reads' HO_7.out).2.2 | (with_reducible refine Kd.C_alloc ?_ _) | (with_reducible refine Kd.C_drewN ?_ _) | (with_reducible refine Kd.C_drew ?_))); (case side4 => exact (Kd.R_reads' HO_7.out).2.1); rintro e w32 ⟨rfl, hb⟩; have n0_ := Aside0.mk (Kd.R_below (by (with_reducible repeat (first | apply Kd.R_alloc | apply Kd.R_drewN | apply Kd.R_drew)); exact HO_7.out) hb); have n1_ := Aside0.mk (Kd.R_below (by (with_reducible repeat (first | apply Kd.R_alloc | apply Kd.R_drewN | apply Kd.R_drew)); exact HO_8.out) hb); have n2_ := Aside0.mk (Kd.R_below (by (with_reducible repeat (first | apply Kd.R_alloc | apply Kd.R_drewN | apply Kd.R_drew)); exact HO_10.out) hb); have n3_ := Aside0.mk (below_step (by repeat (first | (with_reducible first | exact HB.out | apply below_alloc | apply pw_below_drewN | apply below_drew1) | exact HB.out)) hb); clear HO_7; clear HO_8; clear HO_10; clear HB; have HO_7 := n0_; have HO_8 := n1_; have HO_10 := n2_; have HB := n3_; clear n0_ n1_ n2_ n3_; (try clear hb); (try clear hb2); (try clear hk); (try clear hi); have p533 : 0 ≤ ((ji26) : Int) := of_decide_eq_true (by first | (with_reducible assumption) | assumption); have q533 : (ji26) < (x8_2.length : Int) := of_decide_eq_true (by first | (with_reducible assumption) | assumption); obtain ⟨ad533, e533, hx533_0⟩ := Kd.at_int (Kd.R_reads' HO_8.out).2.2 (ji26) p533 q533; cases e533; replace p533 := eq_true p533; replace q533 := eq_true q533)); go_upto_region 17 with (first | (go_at_call 32; (with_reducible refine (penumbraref01_Cmp.calls k2 _ _ x8_2 _ _ x7_1 t532 _ ?side1 ?side2 ?side3 ?side4 A24.out).mono ?_); (case side1 => repeat (first | exact (Kd.R_reads' HO_8.out).2.2 | (with_reducible refine Kd.C_alloc ?_ _) | (with_reducible refine Kd.C_drewN ?_ _) | (with_reducible refine Kd.C_drew ?_))); (case side2 => exact (Kd.R_reads' HO_8.out).2.1); (case side3 => repeat (first | exact (Kd.R_reads' HO_7.out).2.2 | (with_reducible refine Kd.C_alloc ?_ _) | (with_reducible refine Kd.C_drewN ?_ _) | (with_reducible refine Kd.C_drew ?_))); (case side4 => exact (Kd.R_reads' HO_7.out).2.1); rintro e w32 ⟨rfl, hb⟩; have n0_ := Aside0.mk (Kd.R_below (by (with_reducible repeat (first | apply Kd.R_alloc | apply Kd.R_drewN | apply Kd.R_drew)); exact HO_7.out) hb); have n1_ := Aside0.mk (Kd.R_below (by (with_reducible repeat (first | apply Kd.R_alloc | apply Kd.R_drewN | apply Kd.R_drew)); exact HO_8.out) hb); have n2_ := Aside0.mk (Kd.R_below (by (with_reducible repeat (first | apply Kd.R_alloc | apply Kd.R_drewN | apply Kd.R_drew)); exact HO_10.out) hb); have n3_ := Aside0.mk (below_step (by repeat (first | (with_reducible first | exact HB.out | apply below_alloc | apply pw_below_drewN | apply below_drew1) | exact HB.out)) hb); clear HO_7; clear HO_8; clear HO_10; clear HB; have HO_7 := n0_; have HO_8 := n1_; have HO_10 := n2_; have HB := n3_; clear n0_ n1_ n2_ n3_; (try clear hb); (try clear hb2); (try clear hk); (try clear hi); have p533 : 0 ≤ ((ji26) : Int) := of_decide_eq_true (by first | (with_reducible assumption) | assumption); have q533 : (ji26) < (x8_2.length : Int) := of_decide_eq_true (by first | (with_reducible assumption) | assumption); obtain ⟨ad533, e533, hx533_0⟩ := Kd.at_int (Kd.R_reads' HO_8.out).2.2 (ji26) p533 q533; cases e533; replace p533 := eq_true p533; replace q533 := eq_true q533)))
                          (try simp only [Act.put, List.setIfInBounds_toArray, List.set_cons_zero, List.set_cons_succ])
                          go_cut [70] (fun v70 wc => ∃ (kq : Nat) (x70_29 : Bool), v70 = .bool x70_29 ∧ Aside0 (penumbraref01_DivMod.j2 kq x7_1 x8_2 x9_1 x10_2 (x7_1.length : Int) (IntKind.u64.wrap ((IntKind.u64.wrap (rd x7_1 (ji11))) + 1)) (x8_2.length : Int) (wrap64 ((x8_2.length : Int) - (x7_1.length : Int))) (IntKind.u64.wrap (Int.tdiv (IntKind.u64.wrap (rd x8_2 (ji26))) (IntKind.u64.wrap ((IntKind.u64.wrap (rd x7_1 (ji11))) + 1)))) x70_29 = some (r1, r2, r3)) ∧ Aside0 (kq ≤ k2) ∧ Aside0 (Kd.R (Kd.int .u32) 32 wc w.heap.size (fun k_ => some k_ ≠ ((.slice (some ad533) x8_2.length co31) : Value).ownBlock ∧ some k_ ≠ (u10 : Value).ownBlock) (.slice (some ad521) x7_1.length co21) x7_1) ∧ Aside0 (Kd.R (Kd.int .u32) 32 wc w.heap.size (fun k_ => some k_ ≠ ((.slice (some ad521) x7_1.length co21) : Value).ownBlock ∧ some k_ ≠ (u10 : Value).ownBlock) (.slice (some ad533) x8_2.length co31) x8_2) ∧ Aside0 (Kd.R (Kd.int .u32) 32 wc w.heap.size (fun k_ => some k_ ≠ ((.slice (some ad521) x7_1.length co21) : Value).ownBlock ∧ some k_ ≠ ((.slice (some ad533) x8_2.length co31) : Value).ownBlock) u10 x10_2) ∧ Aside0 (Below w.heap.size w wc))
                          case first =>
                            have H := HC30.out
                            clear HC30
                            by_cases c33 : (IntKind.u64.wrap (Int.tdiv (IntKind.u64.wrap (rd x8_2 (ji26))) (IntKind.u64.wrap ((IntKind.u64.wrap (rd x7_1 (ji11))) + 1)))) = 0
                            · rw [if_pos c33] at H
                              have c33b0 : ((IntKind.u64.wrap (Int.tdiv (IntKind.u64.wrap (rd x8_2 (ji26))) (IntKind.u64.wrap ((IntKind.u64.wrap (rd x7_1 (ji11))) + 1)))) == 0) = true := beq_iff_eq.mpr c33
                              have c33b1 : ((IntKind.u64.wrap (Int.tdiv (IntKind.u64.wrap (rd x8_2 (ji26))) (IntKind.u64.wrap ((IntKind.u64.wrap (rd x7_1 (ji11))) + 1)))) != 0) = false := bne_eq_false_iff_eq.mpr c33
                              clear c33
                              (first | rw [c33b0] | (simp only [i64_w, i32_w]; rw [c33b0]) | skip)
                              have H' := Aside0.mk H
                              clear H
                              go_wp2
                              repeat (go_quiet (fail); try go_wp2)
                              go_meet
                              case rel => exact ⟨_, (decide ((x8_2.length : Int) > (x7_1.length : Int))), (by first | rfl | (simp; done) | (simp [*]; done)), H', ⟨by have := HK1.out; have := HK2.out; first | omega | exact Nat.le_refl _⟩, ⟨by (with_reducible repeat (first | apply Kd.R_alloc | apply Kd.R_drewN | apply Kd.R_drew)); exact HO_7.out⟩, ⟨by (with_reducible repeat (first | apply Kd.R_alloc | apply Kd.R_drewN | apply Kd.R_drew)); exact HO_8.out⟩, ⟨by (with_reducible repeat (first | apply Kd.R_alloc | apply Kd.R_drewN | apply Kd.R_drew)); exact HO_10.out⟩, ⟨by repeat (first | (with_reducible first | exact HB.out | apply below_alloc | apply pw_below_drewN | apply below_drew1) | exact HB.out)⟩⟩
                            · rw [if_neg c33] at H
                              have c33b0 : ((IntKind.u64.wrap (Int.tdiv (IntKind.u64.wrap (rd x8_2 (ji26))) (IntKind.u64.wrap ((IntKind.u64.wrap (rd x7_1 (ji11))) + 1)))) == 0) = false := beq_eq_false_iff_ne.mpr c33
                              have c33b1 : ((IntKind.u64.wrap (Int.tdiv (IntKind.u64.wrap (rd x8_2 (ji26))) (IntKind.u64.wrap ((IntKind.u64.wrap (rd x7_1 (ji11))) + 1)))) != 0) = true := bne_iff_ne.mpr c33
                              (first | rw [c33b0] | (simp only [i64_w, i32_w]; rw [c33b0]) | skip)
                              have H' := Aside0.mk H
                              clear H
                              go_wp2
                              repeat (go_quiet (fail); try go_wp2)
                              go_meet
                              case rel => exact ⟨_, (false), (by first | rfl | (simp; done) | (simp [*]; done)), H', ⟨by have := HK1.out; have := HK2.out; first | omega | exact Nat.le_refl _⟩, ⟨by (with_reducible repeat (first | apply Kd.R_alloc | apply Kd.R_drewN | apply Kd.R_drew)); exact HO_7.out⟩, ⟨by (with_reducible repeat (first | apply Kd.R_alloc | apply Kd.R_drewN | apply Kd.R_drew)); exact HO_8.out⟩, ⟨by (with_reducible repeat (first | apply Kd.R_alloc | apply Kd.R_drewN | apply Kd.R_drew)); exact HO_10.out⟩, ⟨by repeat (first | (with_reducible first | exact HB.out | apply below_alloc | apply pw_below_drewN | apply below_drew1) | exact HB.out)⟩⟩
                          case rest =>
                            clear HC30
                            try clear c1
                            try clear c2
                            try clear p2
                            try clear c3
                            try clear c4
                            try clear p5
                            try clear q5
                            try clear hx5
                            try clear p6
                            try clear c12
                            try clear c12b0
                            try clear c13
                            try clear c13b0
                            try clear c14
                            try clear c14b0
                            try clear c25
                            try clear c25b0
                            try clear c27
                            try clear c27b0
                            try clear c28
                            try clear c28b0
                            try clear c29
                            try clear c29b0
                            try clear c29b1
                            try clear c33
                            try clear c33b0
                            try clear c33b1
                            try clear hx521_0
                            try clear hx531_0
                            try clear hx533_0
                            try clear p2
                            try clear p5
                            try clear p521
                            try clear p531
                            try clear p533
                            try clear p6
                            try clear q5
                            try clear q521
                            try clear q531
                            try clear q533
                            obtain ⟨kq, x70_29, rfl, HA, HJ29, HO_7, HO_8, HO_10, HB⟩ := hcut
                            cases kq with
                            | zero => exact absurd HA.out (by simp [penumbraref01_DivMod.j2])
                            | succ kj29 =>
                              have H := HA.out
                              clear HA
                              simp only [penumbraref01_DivMod.j2] at H
                              have HC34 := Aside0.mk H
                              clear H
                              go_upto_if 70 with (fail)
                              repeat (go_quiet (fail); go_upto_if 70 with (fail))
                              go_cut [14, 15] (fun v14 v15 wc => ∃ (kq : Nat) (x14_33 : Int) (x15_33 : Int), v14 = .int .i64 x14_33 ∧ v15 = .int .u64 x15_33 ∧ Aside0 (penumbraref01_DivMod.j3 kq x7_1 x8_2 x9_1 x10_2 (x7_1.length : Int) (IntKind.u64.wrap ((IntKind.u64.wrap (rd x7_1 (ji11))) + 1)) x14_33 x15_33 = some (r1, r2, r3)) ∧ Aside0 (kq ≤ kj29) ∧ Aside0 (Kd.R (Kd.int .u32) 32 wc w.heap.size (fun k_ => some k_ ≠ ((.slice (some ad533) x8_2.length co31) : Value).ownBlock ∧ some k_ ≠ (u10 : Value).ownBlock) (.slice (some ad521) x7_1.length co21) x7_1) ∧ Aside0 (Kd.R (Kd.int .u32) 32 wc w.heap.size (fun k_ => some k_ ≠ ((.slice (some ad521) x7_1.length co21) : Value).ownBlock ∧ some k_ ≠ (u10 : Value).ownBlock) (.slice (some ad533) x8_2.length co31) x8_2) ∧ Aside0 (Kd.R (Kd.int .u32) 32 wc w.heap.size (fun k_ => some k_ ≠ ((.slice (some ad521) x7_1.length co21) : Value).ownBlock ∧ some k_ ≠ ((.slice (some ad533) x8_2.length co31) : Value).ownBlock) u10 x10_2) ∧ Aside0 (Below w.heap.size w wc))
                              case first =>
                                have H := HC34.out
                                clear HC34
                                by_cases c35 : x70_29 = true
                                · subst c35
                                  have H1 : (if 0 ≤ (wrap64 ((x8_2.length : Int) - 1)) then (if (wrap64 ((x8_2.length : Int) - 1)) < (x8_2.length : Int) then (if 0 ≤ (wrap64 ((x8_2.length : Int) - 2)) then (if (wrap64 ((x8_2.length : Int) - 2)) < (x8_2.length : Int) then (if (IntKind.u64.wrap ((IntKind.u64.wrap (rd x7_1 (ji11))) + 1)) = 0 then (none) else (penumbraref01_DivMod.j3 kj29 x7_1 x8_2 x9_1 x10_2 (x7_1.length : Int) (IntKind.u64.wrap ((IntKind.u64.wrap (rd x7_1 (ji11))) + 1)) (wrap64 ((wrap64 ((x8_2.length : Int) - (x7_1.length : Int))) - 1)) (IntKind.u64.wrap (Int.tdiv (IntKind.u64.wrap ((IntKind.u64.wrap ((IntKind.u64.wrap (rd x8_2 (wrap64 ((x8_2.length : Int) - 1)))) * 4294967296)) + (IntKind.u64.wrap (rd x8_2 (wrap64 ((x8_2.length : Int) - 2)))))) (IntKind.u64.wrap ((IntKind.u64.wrap (rd x7_1 (ji11))) + 1)))))) else (none)) else (none)) else (none)) else (none)) = some (r1, r2, r3) := by rw [if_pos rfl] at H; exact H
                                  clear H
                                  have H := H1
                                  clear H1
                                  replace H : (if 0 ≤ (ji26) then (if (ji26) < (x8_2.length : Int) then (if 0 ≤ (wrap64 ((x8_2.length : Int) - 2)) then (if (wrap64 ((x8_2.length : Int) - 2)) < (x8_2.length : Int) then (if (IntKind.u64.wrap ((IntKind.u64.wrap (rd x7_1 (ji11))) + 1)) = 0 then (none) else (penumbraref01_DivMod.j3 kj29 x7_1 x8_2 x9_1 x10_2 (x7_1.length : Int) (IntKind.u64.wrap ((IntKind.u64.wrap (rd x7_1 (ji11))) + 1)) (wrap64 ((wrap64 ((x8_2.length : Int) - (x7_1.length : Int))) - 1)) (IntKind.u64.wrap (Int.tdiv (IntKind.u64.wrap ((IntKind.u64.wrap ((IntKind.u64.wrap (rd x8_2 (ji26))) * 4294967296)) + (IntKind.u64.wrap (rd x8_2 (wrap64 ((x8_2.length : Int) - 2)))))) (IntKind.u64.wrap ((IntKind.u64.wrap (rd x7_1 (ji11))) + 1)))))) else (none)) else (none)) else (none)) else (none)) = some (r1, r2, r3) := by first | (rw [hji26] at H; exact H) | (simp only [hji26] at H ⊢; exact H)
                                  have hji26w : (IntKind.i64.wrap ((x8_2.length : Int) - 1)) = ji26 := (i64_w _).trans hji26
                                  by_cases c36 : 0 ≤ (ji26)
                                  · rw [if_pos c36] at H
                                    have c36b0 : decide (0 ≤ (ji26)) = true := decide_eq_true c36
                                    clear c36
                                    (first | rw [c36b0] | (simp only [i64_w, i32_w]; rw [c36b0]) | skip)
                                    by_cases c37 : (ji26) < (x8_2.length : Int)
                                    · rw [if_pos c37] at H
                                      have c37b0 : decide ((ji26) < (x8_2.length : Int)) = true := decide_eq_true c37
                                      clear c37
                                      obtain ⟨ji38, hji38⟩ : ∃ j_ : Int, (wrap64 ((x8_2.length : Int) - 2)) = j_ := ⟨_, rfl⟩
                                      replace H : (if 0 ≤ (ji38) then (if (ji38) < (x8_2.length : Int) then (if (IntKind.u64.wrap ((IntKind.u64.wrap (rd x7_1 (ji11))) + 1)) = 0 then (none) else (penumbraref01_DivMod.j3 kj29 x7_1 x8_2 x9_1 x10_2 (x7_1.length : Int) (IntKind.u64.wrap ((IntKind.u64.wrap (rd x7_1 (ji11))) + 1)) (wrap64 ((wrap64 ((x8_2.length : Int) - (x7_1.length : Int))) - 1)) (IntKind.u64.wrap (Int.tdiv (IntKind.u64.wrap ((IntKind.u64.wrap ((IntKind.u64.wrap (rd x8_2 (ji26))) * 4294967296)) + (IntKind.u64.wrap (rd x8_2 (ji38))))) (IntKind.u64.wrap ((IntKind.u64.wrap (rd x7_1 (ji11))) + 1)))))) else (none)) else (none)) = some (r1, r2, r3) := by first | (rw [hji38] at H; exact H) | (simp only [hji38] at H ⊢; exact H)
                                      have hji38w : (IntKind.i64.wrap ((x8_2.length : Int) - 2)) = ji38 := (i64_w _).trans hji38
                                      by_cases c39 : 0 ≤ (ji38)
                                      · rw [if_pos c39] at H
                                        have c39b0 : decide (0 ≤ (ji38)) = true := decide_eq_true c39
                                        clear c39
                                        by_cases c40 : (ji38) < (x8_2.length : Int)
                                        · rw [if_pos c40] at H
                                          have c40b0 : decide ((ji38) < (x8_2.length : Int)) = true := decide_eq_true c40
                                          clear c40
                                          by_cases c41 : (IntKind.u64.wrap ((IntKind.u64.wrap (rd x7_1 (ji11))) + 1)) = 0
                                          · rw [if_pos c41] at H
                                            exact absurd H (by simp)
                                          · rw [if_neg c41] at H
                                            have c41b0 : ((IntKind.u64.wrap ((IntKind.u64.wrap (rd x7_1 (ji11))) + 1)) == 0) = false := beq_eq_false_iff_ne.mpr c41
                                            have c41b1 : ((IntKind.u64.wrap ((IntKind.u64.wrap (rd x7_1 (ji11))) + 1)) != 0) = true := bne_iff_ne.mpr c41
                                            have H' := Aside0.mk H
                                            clear H
                                            have p534 : 0 ≤ ((ji26) : Int) := of_decide_eq_true (by first | (with_reducible assumption) | assumption)
                                            have q534 : (ji26) < (x8_2.length : Int) := of_decide_eq_true (by first | (with_reducible assumption) | assumption)
                                            obtain ⟨ad534, e534, hx534_0⟩ := Kd.at_int (Kd.R_reads' HO_8.out).2.2 (ji26) p534 q534
                                            obtain rfl : ad533 = ad534 := (by injection e534)
                                            replace p534 := eq_true p534
                                            replace q534 := eq_true q534
                                            have p535 : 0 ≤ ((ji38) : Int) := of_decide_eq_true (by first | (with_reducible assumption) | assumption)
                                            have q535 : (ji38) < (x8_2.length : Int) := of_decide_eq_true (by first | (with_reducible assumption) | assumption)
                                            obtain ⟨ad535, e535, hx535_0⟩ := Kd.at_int (Kd.R_reads' HO_8.out).2.2 (ji38) p535 q535
                                            obtain rfl : ad533 = ad535 := (by injection e535)
                                            replace p535 := eq_true p535
                                            replace q535 := eq_true q535
                                            go_wp2
                                            repeat (go_quiet (fail); try go_wp2)
                                            go_meet
                                            case rel => exact ⟨_, (wrap64 ((wrap64 ((x8_2.length : Int) - (x7_1.length : Int))) - 1)), (IntKind.u64.wrap (Int.tdiv (IntKind.u64.wrap ((IntKind.u64.wrap ((IntKind.u64.wrap (rd x8_2 (ji26))) * 4294967296)) + (IntKind.u64.wrap (rd x8_2 (ji38))))) (IntKind.u64.wrap ((IntKind.u64.wrap (rd x7_1 (ji11))) + 1)))), (by first | rfl | (simp; done) | (simp [*]; done)), (by first | rfl | (simp; done) | (simp only [← hji11, ← hji26, ← hji26, ← hji38] <;> (first | rfl | simp)) | (simp [*]; done)), H', ⟨by have := HK1.out; have := HK2.out; have := HJ29.out; first | omega | exact Nat.le_refl _⟩, ⟨by (with_reducible repeat (first | apply Kd.R_alloc | apply Kd.R_drewN | apply Kd.R_drew)); exact HO_7.out⟩, ⟨by (with_reducible repeat (first | apply Kd.R_alloc | apply Kd.R_drewN | apply Kd.R_drew)); exact HO_8.out⟩, ⟨by (with_reducible repeat (first | apply Kd.R_alloc | apply Kd.R_drewN | apply Kd.R_drew)); exact HO_10.out⟩, ⟨by repeat (first | (with_reducible first | exact HB.out | apply below_alloc | apply pw_below_drewN | apply below_drew1) | exact HB.out)⟩⟩
                                        · rw [if_neg c40] at H
                                          exact absurd H (by simp)
                                      · rw [if_neg c39] at H
                                        exact absurd H (by simp)
                                    · rw [if_neg c37] at H
                                      exact absurd H (by simp)
                                  · rw [if_neg c36] at H
                                    exact absurd H (by simp)
                                · replace c35 := Bool.eq_false_iff.mpr c35
                                  subst c35
                                  have H1 : (penumbraref01_DivMod.j3 kj29 x7_1 x8_2 x9_1 x10_2 (x7_1.length : Int) (IntKind.u64.wrap ((IntKind.u64.wrap (rd x7_1 (ji11))) + 1)) (wrap64 ((x8_2.length : Int) - (x7_1.length : Int))) (IntKind.u64.wrap (Int.tdiv (IntKind.u64.wrap (rd x8_2 (ji26))) (IntKind.u64.wrap ((IntKind.u64.wrap (rd x7_1 (ji11))) + 1))))) = some (r1, r2, r3) := by rw [if_neg (show ¬ (false = true) by decide)] at H; exact H
                                  clear H
                                  have H := H1
                                  clear H1
                                  have H' := Aside0.mk H
                                  clear H
                                  go_wp2
                                  repeat (go_quiet (fail); try go_wp2)
                                  go_meet
                                  case rel => exact ⟨_, ((wrap64 ((x8_2.length : Int) - (x7_1.length : Int)))), ((IntKind.u64.wrap (Int.tdiv (IntKind.u64.wrap (rd x8_2 (ji26))) (IntKind.u64.wrap ((IntKind.u64.wrap (rd x7_1 (ji11))) + 1))))), (by first | rfl | (simp; done) | (simp [*]; done)), (by first | rfl | (simp; done) | (simp only [← hji11, ← hji26] <;> (first | rfl | simp)) | (simp [*]; done)), H', ⟨by have := HK1.out; have := HK2.out; have := HJ29.out; first | omega | exact Nat.le_refl _⟩, ⟨by (with_reducible repeat (first | apply Kd.R_alloc | apply Kd.R_drewN | apply Kd.R_drew)); exact HO_7.out⟩, ⟨by (with_reducible repeat (first | apply Kd.R_alloc | apply Kd.R_drewN | apply Kd.R_drew)); exact HO_8.out⟩, ⟨by (with_reducible repeat (first | apply Kd.R_alloc | apply Kd.R_drewN | apply Kd.R_drew)); exact HO_10.out⟩, ⟨by repeat (first | (with_reducible first | exact HB.out | apply below_alloc | apply pw_below_drewN | apply below_drew1) | exact HB.out)⟩⟩
                              case rest =>
                                clear HC34
                                try clear c1
                                try clear c2
                                try clear p2
                                try clear c3
                                try clear c4
                                try clear p5
                                try clear q5
                                try clear hx5
                                try clear p6
                                try clear c12
                                try clear c12b0
                                try clear c13
                                try clear c13b0
                                try clear c14
                                try clear c14b0
                                try clear c25
                                try clear c25b0
                                try clear c27
                                try clear c27b0
                                try clear c28
                                try clear c28b0
                                try clear c29
                                try clear c29b0
                                try clear c29b1
                                try clear c33
                                try clear c33b0
                                try clear c33b1
                                try clear c35
                                try clear c36
                                try clear c36b0
                                try clear c37
                                try clear c37b0
                                try clear c39
                                try clear c39b0
                                try clear c40
                                try clear c40b0
                                try clear c41
                                try clear c41b0
                                try clear c41b1
                                try clear hx521_0
                                try clear hx531_0
                                try clear hx533_0
                                try clear hx534_0
                                try clear hx535_0
                                try clear p2
                                try clear p5
                                try clear p521
                                try clear p531
                                try clear p533
                                try clear p534
                                try clear p535
                                try clear p6
                                try clear q5
                                try clear q521
                                try clear q531
                                try clear q533
                                try clear q534
                                try clear q535
                                obtain ⟨kq, x14_33, x15_33, rfl, rfl, HA, HJ33, HO_7, HO_8, HO_10, HB⟩ := hcut
                                cases kq with
                                | zero => exact absurd HA.out (by simp [penumbraref01_DivMod.j3])
                                | succ kj33 =>
                                  have H := HA.out
                                  clear HA
                                  simp only [penumbraref01_DivMod.j3] at H
                                  have HC42 := Aside0.mk H
                                  clear H
                                  go_upto_if 90 with (fail)
                                  repeat (go_quiet (fail); go_upto_if 90 with (fail))
                                  go_cut [15] (fun v15 wc => ∃ (kq : Nat) (x15_41 : Int), v15 = .int .u64 x15_41 ∧ Aside0 (penumbraref01_DivMod.j4 kq x7_1 x8_2 x9_1 x10_2 (x7_1.length : Int) (IntKind.u64.wrap ((IntKind.u64.wrap (rd x7_1 (ji11))) + 1)) x14_33 x15_41 = some (r1, r2, r3)) ∧ Aside0 (kq ≤ kj33) ∧ Aside0 (Kd.R (Kd.int .u32) 32 wc w.heap.size (fun k_ => some k_ ≠ ((.slice (some ad533) x8_2.length co31) : Value).ownBlock ∧ some k_ ≠ (u10 : Value).ownBlock) (.slice (some ad521) x7_1.length co21) x7_1) ∧ Aside0 (Kd.R (Kd.int .u32) 32 wc w.heap.size (fun k_ => some k_ ≠ ((.slice (some ad521) x7_1.length co21) : Value).ownBlock ∧ some k_ ≠ (u10 : Value).ownBlock) (.slice (some ad533) x8_2.length co31) x8_2) ∧ Aside0 (Kd.R (Kd.int .u32) 32 wc w.heap.size (fun k_ => some k_ ≠ ((.slice (some ad521) x7_1.length co21) : Value).ownBlock ∧ some k_ ≠ ((.slice (some ad533) x8_2.length co31) : Value).ownBlock) u10 x10_2) ∧ Aside0 (Below w.heap.size w wc))
                                  case first =>
                                    have H := HC42.out
                                    clear HC42
                                    by_cases c43 : x15_33 = 0
                                    · rw [if_pos c43] at H
                                      have c43b0 : (x15_33 == 0) = true := beq_iff_eq.mpr c43
                                      have c43b1 : (x15_33 != 0) = false := bne_eq_false_iff_eq.mpr c43
                                      clear c43
                                      (first | rw [c43b0] | (simp only [i64_w, i32_w]; rw [c43b0]) | skip)
                                      have H' := Aside0.mk H
                                      clear H
                                      go_wp2
                                      repeat (go_quiet (fail); try go_wp2)
                                      go_meet
                                      case rel => exact ⟨_, (1), (by first | rfl | (simp; done) | (simp [*]; done)), H', ⟨by have := HK1.out; have := HK2.out; have := HJ29.out; have := HJ33.out; first | omega | exact Nat.le_refl _⟩, ⟨by (with_reducible repeat (first | apply Kd.R_alloc | apply Kd.R_drewN | apply Kd.R_drew)); exact HO_7.out⟩, ⟨by (with_reducible repeat (first | apply Kd.R_alloc | apply Kd.R_drewN | apply Kd.R_drew)); exact HO_8.out⟩, ⟨by (with_reducible repeat (first | apply Kd.R_alloc | apply Kd.R_drewN | apply Kd.R_drew)); exact HO_10.out⟩, ⟨by repeat (first | (with_reducible first | exact HB.out | apply below_alloc | apply pw_below_drewN | apply below_drew1) | exact HB.out)⟩⟩
                                    · rw [if_neg c43] at H
                                      have c43b0 : (x15_33 == 0) = false := beq_eq_false_iff_ne.mpr c43
                                      have c43b1 : (x15_33 != 0) = true := bne_iff_ne.mpr c43
                                      (first | rw [c43b0] | (simp only [i64_w, i32_w]; rw [c43b0]) | skip)
                                      have H' := Aside0.mk H
                                      clear H
                                      go_wp2
                                      repeat (go_quiet (fail); try go_wp2)
                                      go_meet
                                      case rel => exact ⟨_, (x15_33), (by first | rfl | (simp; done) | (simp [*]; done)), H', ⟨by have := HK1.out; have := HK2.out; have := HJ29.out; have := HJ33.out; first | omega | exact Nat.le_refl _⟩, ⟨by (with_reducible repeat (first | apply Kd.R_alloc | apply Kd.R_drewN | apply Kd.R_drew)); exact HO_7.out⟩, ⟨by (with_reducible repeat (first | apply Kd.R_alloc | apply Kd.R_drewN | apply Kd.R_drew)); exact HO_8.out⟩, ⟨by (with_reducible repeat (first | apply Kd.R_alloc | apply Kd.R_drewN | apply Kd.R_drew)); exact HO_10.out⟩, ⟨by repeat (first | (with_reducible first | exact HB.out | apply below_alloc | apply pw_below_drewN | apply below_drew1) | exact HB.out)⟩⟩
                                  case rest =>
                                    clear HC42
                                    try clear c1
                                    try clear c2
                                    try clear p2
                                    try clear c3
                                    try clear c4
                                    try clear p5
                                    try clear q5
                                    try clear hx5
                                    try clear p6
                                    try clear c12
                                    try clear c12b0
                                    try clear c13
                                    try clear c13b0
                                    try clear c14
                                    try clear c14b0
                                    try clear c25
                                    try clear c25b0
                                    try clear c27
                                    try clear c27b0
                                    try clear c28
                                    try clear c28b0
                                    try clear c29
                                    try clear c29b0
                                    try clear c29b1
                                    try clear c33
                                    try clear c33b0
                                    try clear c33b1
                                    try clear c35
                                    try clear c36
                                    try clear c36b0
                                    try clear c37
                                    try clear c37b0
                                    try clear c39
                                    try clear c39b0
                                    try clear c40
                                    try clear c40b0
                                    try clear c41
                                    try clear c41b0
                                    try clear c41b1
                                    try clear c43
                                    try clear c43b0
                                    try clear c43b1
                                    try clear hx521_0
                                    try clear hx531_0
                                    try clear hx533_0
                                    try clear hx534_0
                                    try clear hx535_0
                                    try clear p2
                                    try clear p5
                                    try clear p521
                                    try clear p531
                                    try clear p533
                                    try clear p534
                                    try clear p535
                                    try clear p6
                                    try clear q5
                                    try clear q521
                                    try clear q531
                                    try clear q533
                                    try clear q534
                                    try clear q535
                                    obtain ⟨kq, x15_41, rfl, HA, HJ41, HO_7, HO_8, HO_10, HB⟩ := hcut
                                    cases kq with
                                    | zero => exact absurd HA.out (by simp [penumbraref01_DivMod.j4])
                                    | succ kj41 =>
                                      have H := HA.out
                                      clear HA
                                      simp only [penumbraref01_DivMod.j4] at H
                                      replace H := Option.bind_eq_some_iff.mp H
                                      obtain ⟨t536, A440, H⟩ := H
                                      replace H : ((penumbraref01_Add.f kj41 x10_2 t536).bind fun t539 => ((penumbraref01_Mul.f kj41 t536 x7_1).bind fun t542 => ((penumbraref01_Sub.f kj41 x8_2 t542).bind fun bt545 => (penumbraref01_DivMod.l1 kj41 x7_1 bt545.1 x9_1 t539 (x7_1.length : Int) (IntKind.u64.wrap ((IntKind.u64.wrap (rd x7_1 (ji11))) + 1)))))) = some (r1, r2, r3) := H
                                      have A44 := Aside0.mk A440
                                      clear A440
                                      replace H := Option.bind_eq_some_iff.mp H
                                      obtain ⟨t539, A450, H⟩ := H
                                      replace H : ((penumbraref01_Mul.f kj41 t536 x7_1).bind fun t542 => ((penumbraref01_Sub.f kj41 x8_2 t542).bind fun bt545 => (penumbraref01_DivMod.l1 kj41 x7_1 bt545.1 x9_1 t539 (x7_1.length : Int) (IntKind.u64.wrap ((IntKind.u64.wrap (rd x7_1 (ji11))) + 1))))) = some (r1, r2, r3) := H
                                      have A45 := Aside0.mk A450
                                      clear A450
                                      replace H := Option.bind_eq_some_iff.mp H
                                      obtain ⟨t542, A460, H⟩ := H
                                      replace H : ((penumbraref01_Sub.f kj41 x8_2 t542).bind fun bt545 => (penumbraref01_DivMod.l1 kj41 x7_1 bt545.1 x9_1 t539 (x7_1.length : Int) (IntKind.u64.wrap ((IntKind.u64.wrap (rd x7_1 (ji11))) + 1)))) = some (r1, r2, r3) := H
                                      have A46 := Aside0.mk A460
                                      clear A460
                                      replace H := Option.bind_eq_some_iff.mp H
                                      obtain ⟨⟨t545, t546⟩, A470, H⟩ := H
                                      replace H : (penumbraref01_DivMod.l1 kj41 x7_1 t545 x9_1 t539 (x7_1.length : Int) (IntKind.u64.wrap ((IntKind.u64.wrap (rd x7_1 (ji11))) + 1))) = some (r1, r2, r3) := H
                                      have A47 := Aside0.mk A470
                                      clear A470
                                      have H' := Aside0.mk H
                                      clear H
                                      go_wp2_with (first | (go_at_call 48; (with_reducible refine (penumbraref01_at.calls x15_41 x14_33 t536 _ A44.out).mono ?_); rintro e w48 ⟨v537, rfl, ho0, hb⟩; have n0_ := Aside0.mk (Kd.R_elder' (by (with_reducible repeat (first | apply Kd.R_alloc | apply Kd.R_drewN | apply Kd.R_drew)); exact HO_7.out) (Kd.R_base ho0) hb); have n1_ := Aside0.mk (Kd.R_elder' (by (with_reducible repeat (first | apply Kd.R_alloc | apply Kd.R_drewN | apply Kd.R_drew)); exact HO_8.out) (Kd.R_base ho0) hb); have n2_ := Aside0.mk (Kd.R_elder' (by (with_reducible repeat (first | apply Kd.R_alloc | apply Kd.R_drewN | apply Kd.R_drew)); exact HO_10.out) (Kd.R_base ho0) hb); have n3_ := Aside0.mk (Kd.R_lower (Kd.R_new' (Kd.R_new' (Kd.R_new' ho0 (Kd.R_lt (by (with_reducible repeat (first | apply Kd.R_alloc | apply Kd.R_drewN | apply Kd.R_drew)); exact HO_7.out))) (Kd.R_lt (by (with_reducible repeat (first | apply Kd.R_alloc | apply Kd.R_drewN | apply Kd.R_drew)); exact HO_8.out))) (Kd.R_lt (by (with_reducible repeat (first | apply Kd.R_alloc | apply Kd.R_drewN | apply Kd.R_drew)); exact HO_10.out))) (below_size (by repeat (first | (with_reducible first | exact HB.out | apply below_alloc | apply pw_below_drewN | apply below_drew1) | exact HB.out)))); have n4_ := Aside0.mk (below_step (by repeat (first | (with_reducible first | exact HB.out | apply below_alloc | apply pw_below_drewN | apply below_drew1) | exact HB.out)) hb); clear HO_7; clear HO_8; clear HO_10; clear HB; have HO_7 := n0_; have HO_8 := n1_; have HO_10 := n2_; have HO538 := n3_; have HB := n4_; clear n0_ n1_ n2_ n3_ n4_; (try clear hb); (try clear hb2); (try clear hk); (try clear hi); (try clear ho0); obtain ⟨Ao49, co49, eo49⟩ := Kd.R_slice HO_10.out; subst eo49; obtain ⟨Ao50, co50, eo50⟩ := Kd.R_slice HO538.out; subst eo50) | (go_at_call 31; (with_reducible refine (penumbraref01_Add.calls kj41 _ _ x10_2 _ _ t536 t539 _ ?side1 ?side2 ?side3 ?side4 A45.out).mono ?_); (case side1 => repeat (first | exact (Kd.R_reads' HO_10.out).2.2 | (with_reducible refine Kd.C_alloc ?_ _) | (with_reducible refine Kd.C_drewN ?_ _) | (with_reducible refine Kd.C_drew ?_))); (case side2 => exact (Kd.R_reads' HO_10.out).2.1); (case side3 => repeat (first | exact (Kd.R_reads' HO538.out).2.2 | (with_reducible refine Kd.C_alloc ?_ _) | (with_reducible refine Kd.C_drewN ?_ _) | (with_reducible refine Kd.C_drew ?_))); (case side4 => exact (Kd.R_reads' HO538.out).2.1); rintro e w51 ⟨v540, rfl, ho0, hb⟩; have n0_ := Aside0.mk (Kd.R_elder' (by (with_reducible repeat (first | apply Kd.R_alloc | apply Kd.R_drewN | apply Kd.R_drew)); exact HO_7.out) (Kd.R_base ho0) hb); have n1_ := Aside0.mk (Kd.R_elder' (by (with_reducible repeat (first | apply Kd.R_alloc | apply Kd.R_drewN | apply Kd.R_drew)); exact HO_8.out) (Kd.R_base ho0) hb); have n2_ := Aside0.mk (Kd.R_elder' (by (with_reducible repeat (first | apply Kd.R_alloc | apply Kd.R_drewN | apply Kd.R_drew)); exact HO_10.out) (Kd.R_base ho0) hb); have n3_ := Aside0.mk (Kd.R_elder' (by (with_reducible repeat (first | apply Kd.R_alloc | apply Kd.R_drewN | apply Kd.R_drew)); exact HO538.out) (Kd.R_base ho0) hb); have n4_ := Aside0.mk (Kd.R_lower (Kd.R_new' (Kd.R_new' (Kd.R_new' (Kd.R_new' ho0 (Kd.R_lt (by (with_reducible repeat (first | apply Kd.R_alloc | apply Kd.R_drewN | apply Kd.R_drew)); exact HO_7.out))) (Kd.R_lt (by (with_reducible repeat (first | apply Kd.R_alloc | apply Kd.R_drewN | apply Kd.R_drew)); exact HO_8.out))) (Kd.R_lt (by (with_reducible repeat (first | apply Kd.R_alloc | apply Kd.R_drewN | apply Kd.R_drew)); exact HO_10.out))) (Kd.R_lt (by (with_reducible repeat (first | apply Kd.R_alloc | apply Kd.R_drewN | apply Kd.R_drew)); exact HO538.out))) (below_size (by repeat (first | (with_reducible first | exact HB.out | apply below_alloc | apply pw_below_drewN | apply below_drew1) | exact HB.out)))); have n5_ := Aside0.mk (below_step (by repeat (first | (with_reducible first | exact HB.out | apply below_alloc | apply pw_below_drewN | apply below_drew1) | exact HB.out)) hb); clear HO_7; clear HO_8; clear HO_10; clear HO538; clear HB; have HO_7 := n0_; have HO_8 := n1_; have HO_10 := n2_; have HO538 := n3_; have HO541 := n4_; have HB := n5_; clear n0_ n1_ n2_ n3_ n4_ n5_; (try clear hb); (try clear hb2); (try clear hk); (try clear hi); (try clear ho0)) | (go_at_call 21; (with_reducible refine (penumbraref01_Mul.calls kj41 _ _ t536 _ _ x7_1 t542 _ ?side1 ?side2 ?side3 ?side4 A46.out).mono ?_); (case side1 => repeat (first | exact (Kd.R_reads' HO538.out).2.2 | (with_reducible refine Kd.C_alloc ?_ _) | (with_reducible refine Kd.C_drewN ?_ _) | (with_reducible refine Kd.C_drew ?_))); (case side2 => exact (Kd.R_reads' HO538.out).2.1); (case side3 => repeat (first | exact (Kd.R_reads' HO_7.out).2.2 | (with_reducible refine Kd.C_alloc ?_ _) | (with_reducible refine Kd.C_drewN ?_ _) | (with_reducible refine Kd.C_drew ?_))); (case side4 => exact (Kd.R_reads' HO_7.out).2.1); rintro e w52 ⟨v543, rfl, ho0, hb⟩; have n0_ := Aside0.mk (Kd.R_elder' (by (with_reducible repeat (first | apply Kd.R_alloc | apply Kd.R_drewN | apply Kd.R_drew)); exact HO_7.out) (Kd.R_base ho0) hb); have n1_ := Aside0.mk (Kd.R_elder' (by (with_reducible repeat (first | apply Kd.R_alloc | apply Kd.R_drewN | apply Kd.R_drew)); exact HO_8.out) (Kd.R_base ho0) hb); have n2_ := Aside0.mk (Kd.R_elder' (by (with_reducible repeat (first | apply Kd.R_alloc | apply Kd.R_drewN | apply Kd.R_drew)); exact HO_10.out) (Kd.R_base ho0) hb); have n3_ := Aside0.mk (Kd.R_elder' (by (with_reducible repeat (first | apply Kd.R_alloc | apply Kd.R_drewN | apply Kd.R_drew)); exact HO538.out) (Kd.R_base ho0) hb); have n4_ := Aside0.mk (Kd.R_elder' (by (with_reducible repeat (first | apply Kd.R_alloc | apply Kd.R_drewN | apply Kd.R_drew)); exact HO541.out) (Kd.R_base ho0) hb); have n5_ := Aside0.mk (Kd.R_lower (Kd.R_new' (Kd.R_new' (Kd.R_new' (Kd.R_new' (Kd.R_new' ho0 (Kd.R_lt (by (with_reducible repeat (first | apply Kd.R_alloc | apply Kd.R_drewN | apply Kd.R_drew)); exact HO_7.out))) (Kd.R_lt (by (with_reducible repeat (first | apply Kd.R_alloc | apply Kd.R_drewN | apply Kd.R_drew)); exact HO_8.out))) (Kd.R_lt (by (with_reducible repeat (first | apply Kd.R_alloc | apply Kd.R_drewN | apply Kd.R_drew)); exact HO_10.out))) (Kd.R_lt (by (with_reducible repeat (first | apply Kd.R_alloc | apply Kd.R_drewN | apply Kd.R_drew)); exact HO538.out))) (Kd.R_lt (by (with_reducible repeat (first | apply Kd.R_alloc | apply Kd.R_drewN | apply Kd.R_drew)); exact HO541.out))) (below_size (by repeat (first | (with_reducible first | exact HB.out | apply below_alloc | apply pw_below_drewN | apply below_drew1) | exact HB.out)))); have n6_ := Aside0.mk (below_step (by repeat (first | (with_reducible first | exact HB.out | apply below_alloc | apply pw_below_drewN | apply below_drew1) | exact HB.out)) hb); clear HO_7; clear HO_8; clear HO_10; clear HO538; clear HO541; clear HB; have HO_7 := n0_; have HO_8 := n1_; have HO_10 := n2_; have HO538 := n3_; have HO541 := n4_; have HO544 := n5_; have HB := n6_; clear n0_ n1_ n2_ n3_ n4_ n5_ n6_; (try clear hb); (try clear hb2); (try clear hk); (try clear hi); (try clear ho0); obtain ⟨Ao53, co53, eo53⟩ := Kd.R_slice HO544.out; subst eo53) | (go_at_call 30; (with_reducible refine (penumbraref01_Sub.calls kj41 _ _ x8_2 _ _ t542 t545 t546 _ ?side1 ?side2 ?side3 ?side4 A47.out).mono ?_); (case side1 => repeat (first | exact (Kd.R_reads' HO_8.out).2.2 | (with_reducible refine Kd.C_alloc ?_ _) | (with_reducible refine Kd.C_drewN ?_ _) | (with_reducible refine Kd.C_drew ?_))); (case side2 => exact (Kd.R_reads' HO_8.out).2.1); (case side3 => repeat (first | exact (Kd.R_reads' HO544.out).2.2 | (with_reducible refine Kd.C_alloc ?_ _) | (with_reducible refine Kd.C_drewN ?_ _) | (with_reducible refine Kd.C_drew ?_))); (case side4 => exact (Kd.R_reads' HO544.out).2.1); rintro e w54 ⟨v547, rfl, ho0, hb⟩; have n0_ := Aside0.mk (Kd.R_elder' (by (with_reducible repeat (first | apply Kd.R_alloc | apply Kd.R_drewN | apply Kd.R_drew)); exact HO_7.out) (Kd.R_base ho0) hb); have n1_ := Aside0.mk (Kd.R_elder' (by (with_reducible repeat (first | apply Kd.R_alloc | apply Kd.R_drewN | apply Kd.R_drew)); exact HO_8.out) (Kd.R_base ho0) hb); have n2_ := Aside0.mk (Kd.R_elder' (by (with_reducible repeat (first | apply Kd.R_alloc | apply Kd.R_drewN | apply Kd.R_drew)); exact HO_10.out) (Kd.R_base ho0) hb); have n3_ := Aside0.mk (Kd.R_elder' (by (with_reducible repeat (first | apply Kd.R_alloc | apply Kd.R_drewN | apply Kd.R_drew)); exact HO538.out) (Kd.R_base ho0) hb); have n4_ := Aside0.mk (Kd.R_elder' (by (with_reducible repeat (first | apply Kd.R_alloc | apply Kd.R_drewN | apply Kd.R_drew)); exact HO541.out) (Kd.R_base ho0) hb); have n5_ := Aside0.mk (Kd.R_elder' (by (with_reducible repeat (first | apply Kd.R_alloc | apply Kd.R_drewN | apply Kd.R_drew)); exact HO544.out) (Kd.R_base ho0) hb); have n6_ := Aside0.mk (Kd.R_lower (Kd.R_new' (Kd.R_new' (Kd.R_new' (Kd.R_new' (Kd.R_new' (Kd.R_new' ho0 (Kd.R_lt (by (with_reducible repeat (first | apply Kd.R_alloc | apply Kd.R_drewN | apply Kd.R_drew)); exact HO_7.out))) (Kd.R_lt (by (with_reducible repeat (first | apply Kd.R_alloc | apply Kd.R_drewN | apply Kd.R_drew)); exact HO_8.out))) (Kd.R_lt (by (with_reducible repeat (first | apply Kd.R_alloc | apply Kd.R_drewN | apply Kd.R_drew)); exact HO_10.out))) (Kd.R_lt (by (with_reducible repeat (first | apply Kd.R_alloc | apply Kd.R_drewN | apply Kd.R_drew)); exact HO538.out))) (Kd.R_lt (by (with_reducible repeat (first | apply Kd.R_alloc | apply Kd.R_drewN | apply Kd.R_drew)); exact HO541.out))) (Kd.R_lt (by (with_reducible repeat (first | apply Kd.R_alloc | apply Kd.R_drewN | apply Kd.R_drew)); exact HO544.out))) (below_size (by repeat (first | (with_reducible first | exact HB.out | apply below_alloc | apply pw_below_drewN | apply below_drew1) | exact HB.out)))); have n7_ := Aside0.mk (below_step (by repeat (first | (with_reducible first | exact HB.out | apply below_alloc | apply pw_below_drewN | apply below_drew1) | exact HB.out)) hb); clear HO_7; clear HO_8; clear HO_10; clear HO538; clear HO541; clear HO544; clear HB; have HO_7 := n0_; have HO_8 := n1_; have HO_10 := n2_; have HO538 := n3_; have HO541 := n4_; have HO544 := n5_; have HO548 := n6_; have HB := n7_; clear n0_ n1_ n2_ n3_ n4_ n5_ n6_ n7_; (try clear hb); (try clear hb2); (try clear hk); (try clear hi); (try clear ho0)))
                                      repeat (go_quiet (first | (go_at_call 48; (with_reducible refine (penumbraref01_at.calls x15_41 x14_33 t536 _ A44.out).mono ?_); rintro e w48 ⟨v537, rfl, ho0, hb⟩; have n0_ := Aside0.mk (Kd.R_elder' (by (with_reducible repeat (first | apply Kd.R_alloc | apply Kd.R_drewN | apply Kd.R_drew)); exact HO_7.out) (Kd.R_base ho0) hb); have n1_ := Aside0.mk (Kd.R_elder' (by (with_reducible repeat (first | apply Kd.R_alloc | apply Kd.R_drewN | apply Kd.R_drew)); exact HO_8.out) (Kd.R_base ho0) hb); have n2_ := Aside0.mk (Kd.R_elder' (by (with_reducible repeat (first | apply Kd.R_alloc | apply Kd.R_drewN | apply Kd.R_drew)); exact HO_10.out) (Kd.R_base ho0) hb); have n3_ := Aside0.mk (Kd.R_lower (Kd.R_new' (Kd.R_new' (Kd.R_new' ho0 (Kd.R_lt (by (with_reducible repeat (first | apply Kd.R_alloc | apply Kd.R_drewN | apply Kd.R_drew)); exact HO_7.out))) (Kd.R_lt (by (with_reducible repeat (first | apply Kd.R_alloc | apply Kd.R_drewN | apply Kd.R_drew)); exact HO_8.out))) (Kd.R_lt (by (with_reducible repeat (first | apply Kd.R_alloc | apply Kd.R_drewN | apply Kd.R_drew)); exact HO_10.out))) (below_size (by repeat (first | (with_reducible first | exact HB.out | apply below_alloc | apply pw_below_drewN | apply below_drew1) | exact HB.out)))); have n4_ := Aside0.mk (below_step (by repeat (first | (with_reducible first | exact HB.out | apply below_alloc | apply pw_below_drewN | apply below_drew1) | exact HB.out)) hb); clear HO_7; clear HO_8; clear HO_10; clear HB; have HO_7 := n0_; have HO_8 := n1_; have HO_10 := n2_; have HO538 := n3_; have HB := n4_; clear n0_ n1_ n2_ n3_ n4_; (try clear hb); (try clear hb2); (try clear hk); (try clear hi); (try clear ho0); obtain ⟨Ao49, co49, eo49⟩ := Kd.R_slice HO_10.out; subst eo49; obtain ⟨Ao50, co50, eo50⟩ := Kd.R_slice HO538.out; subst eo50) | (go_at_call 31; (with_reducible refine (penumbraref01_Add.calls kj41 _ _ x10_2 _ _ t536 t539 _ ?side1 ?side2 ?side3 ?side4 A45.out).mono ?_); (case side1 => repeat (first | exact (Kd.R_reads' HO_10.out).2.2 | (with_reducible refine Kd.C_alloc ?_ _) | (with_reducible refine Kd.C_drewN ?_ _) | (with_reducible refine Kd.C_drew ?_))); (case side2 => exact (Kd.R_reads' HO_10.out).2.1); (case side3 => repeat (first | exact (Kd.R_reads' HO538.out).2.2 | (with_reducible refine Kd.C_alloc ?_ _) | (with_reducible refine Kd.C_drewN ?_ _) | (with_reducible refine Kd.C_drew ?_))); (case side4 => exact (Kd.R_reads' HO538.out).2.1); rintro e w51 ⟨v540, rfl, ho0, hb⟩; have n0_ := Aside0.mk (Kd.R_elder' (by (with_reducible repeat (first | apply Kd.R_alloc | apply Kd.R_drewN | apply Kd.R_drew)); exact HO_7.out) (Kd.R_base ho0) hb); have n1_ := Aside0.mk (Kd.R_elder' (by (with_reducible repeat (first | apply Kd.R_alloc | apply Kd.R_drewN | apply Kd.R_drew)); exact HO_8.out) (Kd.R_base ho0) hb); have n2_ := Aside0.mk (Kd.R_elder' (by (with_reducible repeat (first | apply Kd.R_alloc | apply Kd.R_drewN | apply Kd.R_drew)); exact HO_10.out) (Kd.R_base ho0) hb); have n3_ := Aside0.mk (Kd.R_elder' (by (with_reducible repeat (first | apply Kd.R_alloc | apply Kd.R_drewN | apply Kd.R_drew)); exact HO538.out) (Kd.R_base ho0) hb); have n4_ := Aside0.mk (Kd.R_lower (Kd.R_new' (Kd.R_new' (Kd.R_new' (Kd.R_new' ho0 (Kd.R_lt (by (with_reducible repeat (first | apply Kd.R_alloc | apply Kd.R_drewN | apply Kd.R_drew)); exact HO_7.out))) (Kd.R_lt (by (with_reducible repeat (first | apply Kd.R_alloc | apply Kd.R_drewN | apply Kd.R_drew)); exact HO_8.out))) (Kd.R_lt (by (with_reducible repeat (first | apply Kd.R_alloc | apply Kd.R_drewN | apply Kd.R_drew)); exact HO_10.out))) (Kd.R_lt (by (with_reducible repeat (first | apply Kd.R_alloc | apply Kd.R_drewN | apply Kd.R_drew)); exact HO538.out))) (below_size (by repeat (first | (with_reducible first | exact HB.out | apply below_alloc | apply pw_below_drewN | apply below_drew1) | exact HB.out)))); have n5_ := Aside0.mk (below_step (by repeat (first | (with_reducible first | exact HB.out | apply below_alloc | apply pw_below_drewN | apply below_drew1) | exact HB.out)) hb); clear HO_7; clear HO_8; clear HO_10; clear HO538; clear HB; have HO_7 := n0_; have HO_8 := n1_; have HO_10 := n2_; have HO538 := n3_; have HO541 := n4_; have HB := n5_; clear n0_ n1_ n2_ n3_ n4_ n5_; (try clear hb); (try clear hb2); (try clear hk); (try clear hi); (try clear ho0)) | (go_at_call 21; (with_reducible refine (penumbraref01_Mul.calls kj41 _ _ t536 _ _ x7_1 t542 _ ?side1 ?side2 ?side3 ?side4 A46.out).mono ?_); (case side1 => repeat (first | exact (Kd.R_reads' HO538.out).2.2 | (with_reducible refine Kd.C_alloc ?_ _) | (with_reducible refine Kd.C_drewN ?_ _) | (with_reducible refine Kd.C_drew ?_))); (case side2 => exact (Kd.R_reads' HO538.out).2.1); (case side3 => repeat (first | exact (Kd.R_reads' HO_7.out).2.2 | (with_reducible refine Kd.C_alloc ?_ _) | (with_reducible refine Kd.C_drewN ?_ _) | (with_reducible refine Kd.C_drew ?_))); (case side4 => exact (Kd.R_reads' HO_7.out).2.1); rintro e w52 ⟨v543, rfl, ho0, hb⟩; have n0_ := Aside0.mk (Kd.R_elder' (by (with_reducible repeat (first | apply Kd.R_alloc | apply Kd.R_drewN | apply Kd.R_drew)); exact HO_7.out) (Kd.R_base ho0) hb); have n1_ := Aside0.mk (Kd.R_elder' (by (with_reducible repeat (first | apply Kd.R_alloc | apply Kd.R_drewN | apply Kd.R_drew)); exact HO_8.out) (Kd.R_base ho0) hb); have n2_ := Aside0.mk (Kd.R_elder' (by (with_reducible repeat (first | apply Kd.R_alloc | apply Kd.R_drewN | apply Kd.R_drew)); exact HO_10.out) (Kd.R_base ho0) hb); have n3_ := Aside0.mk (Kd.R_elder' (by (with_reducible repeat (first | apply Kd.R_alloc | apply Kd.R_drewN | apply Kd.R_drew)); exact HO538.out) (Kd.R_base ho0) hb); have n4_ := Aside0.mk (Kd.R_elder' (by (with_reducible repeat (first | apply Kd.R_alloc | apply Kd.R_drewN | apply Kd.R_drew)); exact HO541.out) (Kd.R_base ho0) hb); have n5_ := Aside0.mk (Kd.R_lower (Kd.R_new' (Kd.R_new' (Kd.R_new' (Kd.R_new' (Kd.R_new' ho0 (Kd.R_lt (by (with_reducible repeat (first | apply Kd.R_alloc | apply Kd.R_drewN | apply Kd.R_drew)); exact HO_7.out))) (Kd.R_lt (by (with_reducible repeat (first | apply Kd.R_alloc | apply Kd.R_drewN | apply Kd.R_drew)); exact HO_8.out))) (Kd.R_lt (by (with_reducible repeat (first | apply Kd.R_alloc | apply Kd.R_drewN | apply Kd.R_drew)); exact HO_10.out))) (Kd.R_lt (by (with_reducible repeat (first | apply Kd.R_alloc | apply Kd.R_drewN | apply Kd.R_drew)); exact HO538.out))) (Kd.R_lt (by (with_reducible repeat (first | apply Kd.R_alloc | apply Kd.R_drewN | apply Kd.R_drew)); exact HO541.out))) (below_size (by repeat (first | (with_reducible first | exact HB.out | apply below_alloc | apply pw_below_drewN | apply below_drew1) | exact HB.out)))); have n6_ := Aside0.mk (below_step (by repeat (first | (with_reducible first | exact HB.out | apply below_alloc | apply pw_below_drewN | apply below_drew1) | exact HB.out)) hb); clear HO_7; clear HO_8; clear HO_10; clear HO538; clear HO541; clear HB; have HO_7 := n0_; have HO_8 := n1_; have HO_10 := n2_; have HO538 := n3_; have HO541 := n4_; have HO544 := n5_; have HB := n6_; clear n0_ n1_ n2_ n3_ n4_ n5_ n6_; (try clear hb); (try clear hb2); (try clear hk); (try clear hi); (try clear ho0); obtain ⟨Ao53, co53, eo53⟩ := Kd.R_slice HO544.out; subst eo53) | (go_at_call 30; (with_reducible refine (penumbraref01_Sub.calls kj41 _ _ x8_2 _ _ t542 t545 t546 _ ?side1 ?side2 ?side3 ?side4 A47.out).mono ?_); (case side1 => repeat (first | exact (Kd.R_reads' HO_8.out).2.2 | (with_reducible refine Kd.C_alloc ?_ _) | (with_reducible refine Kd.C_drewN ?_ _) | (with_reducible refine Kd.C_drew ?_))); (case side2 => exact (Kd.R_reads' HO_8.out).2.1); (case side3 => repeat (first | exact (Kd.R_reads' HO544.out).2.2 | (with_reducible refine Kd.C_alloc ?_ _) | (with_reducible refine Kd.C_drewN ?_ _) | (with_reducible refine Kd.C_drew ?_))); (case side4 => exact (Kd.R_reads' HO544.out).2.1); rintro e w54 ⟨v547, rfl, ho0, hb⟩; have n0_ := Aside0.mk (Kd.R_elder' (by (with_reducible repeat (first | apply Kd.R_alloc | apply Kd.R_drewN | apply Kd.R_drew)); exact HO_7.out) (Kd.R_base ho0) hb); have n1_ := Aside0.mk (Kd.R_elder' (by (with_reducible repeat (first | apply Kd.R_alloc | apply Kd.R_drewN | apply Kd.R_drew)); exact HO_8.out) (Kd.R_base ho0) hb); have n2_ := Aside0.mk (Kd.R_elder' (by (with_reducible repeat (first | apply Kd.R_alloc | apply Kd.R_drewN | apply Kd.R_drew)); exact HO_10.out) (Kd.R_base ho0) hb); have n3_ := Aside0.mk (Kd.R_elder' (by (with_reducible repeat (first | apply Kd.R_alloc | apply Kd.R_drewN | apply Kd.R_drew)); exact HO538.out) (Kd.R_base ho0) hb); have n4_ := Aside0.mk (Kd.R_elder' (by (with_reducible repeat (first | apply Kd.R_alloc | apply Kd.R_drewN | apply Kd.R_drew)); exact HO541.out) (Kd.R_base ho0) hb); have n5_ := Aside0.mk (Kd.R_elder' (by (with_reducible repeat (first | apply Kd.R_alloc | apply Kd.R_drewN | apply Kd.R_drew)); exact HO544.out) (Kd.R_base ho0) hb); have n6_ := Aside0.mk (Kd.R_lower (Kd.R_new' (Kd.R_new' (Kd.R_new' (Kd.R_new' (Kd.R_new' (Kd.R_new' ho0 (Kd.R_lt (by (with_reducible repeat (first | apply Kd.R_alloc | apply Kd.R_drewN | apply Kd.R_drew)); exact HO_7.out))) (Kd.R_lt (by (with_reducible repeat (first | apply Kd.R_alloc | apply Kd.R_drewN | apply Kd.R_drew)); exact HO_8.out))) (Kd.R_lt (by (with_reducible repeat (first | apply Kd.R_alloc | apply Kd.R_drewN | apply Kd.R_drew)); exact HO_10.out))) (Kd.R_lt (by (with_reducible repeat (first | apply Kd.R_alloc | apply Kd.R_drewN | apply Kd.R_drew)); exact HO538.out))) (Kd.R_lt (by (with_reducible repeat (first | apply Kd.R_alloc | apply Kd.R_drewN | apply Kd.R_drew)); exact HO541.out))) (Kd.R_lt (by (with_reducible repeat (first | apply Kd.R_alloc | apply Kd.R_drewN | apply Kd.R_drew)); exact HO544.out))) (below_size (by repeat (first | (with_reducible first | exact HB.out | apply below_alloc | apply pw_below_drewN | apply below_drew1) | exact HB.out)))); have n7_ := Aside0.mk (below_step (by repeat (first | (with_reducible first | exact HB.out | apply below_alloc | apply pw_below_drewN | apply below_drew1) | exact HB.out)) hb); clear HO_7; clear HO_8; clear HO_10; clear HO538; clear HO541; clear HO544; clear HB; have HO_7 := n0_; have HO_8 := n1_; have HO_10 := n2_; have HO538 := n3_; have HO541 := n4_; have HO544 := n5_; have HO548 := n6_; have HB := n7_; clear n0_ n1_ n2_ n3_ n4_ n5_ n6_ n7_; (try clear hb); (try clear hb2); (try clear hk); (try clear hi); (try clear ho0))); try go_wp2_with (first | (go_at_call 48; (with_reducible refine (penumbraref01_at.calls x15_41 x14_33 t536 _ A44.out).mono ?_); rintro e w48 ⟨v537, rfl, ho0, hb⟩; have n0_ := Aside0.mk (Kd.R_elder' (by (with_reducible repeat (first | apply Kd.R_alloc | apply Kd.R_drewN | apply Kd.R_drew)); exact HO_7.out) (Kd.R_base ho0) hb); have n1_ := Aside0.mk (Kd.R_elder' (by (with_reducible repeat (first | apply Kd.R_alloc | apply Kd.R_drewN | apply Kd.R_drew)); exact HO_8.out) (Kd.R_base ho0) hb); have n2_ := Aside0.mk (Kd.R_elder' (by (with_reducible repeat (first | apply Kd.R_alloc | apply Kd.R_drewN | apply Kd.R_drew)); exact HO_10.out) (Kd.R_base ho0) hb); have n3_ := Aside0.mk (Kd.R_lower (Kd.R_new' (Kd.R_new' (Kd.R_new' ho0 (Kd.R_lt (by (with_reducible repeat (first | apply Kd.R_alloc | apply Kd.R_drewN | apply Kd.R_drew)); exact HO_7.out))) (Kd.R_lt (by (with_reducible repeat (first | apply Kd.R_alloc | apply Kd.R_drewN | apply Kd.R_drew)); exact HO_8.out))) (Kd.R_lt (by (with_reducible repeat (first | apply Kd.R_alloc | apply Kd.R_drewN | apply Kd.R_drew)); exact HO_10.out))) (below_size (by repeat (first | (with_reducible first | exact HB.out | apply below_alloc | apply pw_below_drewN | apply below_drew1) | exact HB.out)))); have n4_ := Aside0.mk (below_step (by repeat (first | (with_reducible first | exact HB.out | apply below_alloc | apply pw_below_drewN | apply below_drew1) | exact HB.out)) hb); clear HO_7; clear HO_8; clear HO_10; clear HB; have HO_7 := n0_; have HO_8 := n1_; have HO_10 := n2_; have HO538 := n3_; have HB := n4_; clear n0_ n1_ n2_ n3_ n4_; (try clear hb); (try clear hb2); (try clear hk); (try clear hi); (try clear ho0); obtain ⟨Ao49, co49, eo49⟩ := Kd.R_slice HO_10.out; subst eo49; obtain ⟨Ao50, co50, eo50⟩ := Kd.R_slice HO538.out; subst eo50) | (go_at_call 31; (with_reducible refine (penumbraref01_Add.calls kj41 _ _ x10_2 _ _ t536 t539 _ ?side1 ?side2 ?side3 ?side4 A45.out).mono ?_); (case side1 => repeat (first | exact (Kd.R_reads' HO_10.out).2.2 | (with_reducible refine Kd.C_alloc ?_ _) | (with_reducible refine Kd.C_drewN ?_ _) | (with_reducible refine Kd.C_drew ?_))); (case side2 => exact (Kd.R_reads' HO_10.out).2.1); (case side3 => repeat (first | exact (Kd.R_reads' HO538.out).2.2 | (with_reducible refine Kd.C_alloc ?_ _) | (with_reducible refine Kd.C_drewN ?_ _) | (with_reducible refine Kd.C_drew ?_))); (case side4 => exact (Kd.R_reads' HO538.out).2.1); rintro e w51 ⟨v540, rfl, ho0, hb⟩; have n0_ := Aside0.mk (Kd.R_elder' (by (with_reducible repeat (first | apply Kd.R_alloc | apply Kd.R_drewN | apply Kd.R_drew)); exact HO_7.out) (Kd.R_base ho0) hb); have n1_ := Aside0.mk (Kd.R_elder' (by (with_reducible repeat (first | apply Kd.R_alloc | apply Kd.R_drewN | apply Kd.R_drew)); exact HO_8.out) (Kd.R_base ho0) hb); have n2_ := Aside0.mk (Kd.R_elder' (by (with_reducible repeat (first | apply Kd.R_alloc | apply Kd.R_drewN | apply Kd.R_drew)); exact HO_10.out) (Kd.R_base ho0) hb); have n3_ := Aside0.mk (Kd.R_elder' (by (with_reducible repeat (first | apply Kd.R_alloc | apply Kd.R_drewN | apply Kd.R_drew)); exact HO538.out) (Kd.R_base ho0) hb); have n4_ := Aside0.mk (Kd.R_lower (Kd.R_new' (Kd.R_new' (Kd.R_new' (Kd.R_new' ho0 (Kd.R_lt (by (with_reducible repeat (first | apply Kd.R_alloc | apply Kd.R_drewN | apply Kd.R_drew)); exact HO_7.out))) (Kd.R_lt (by (with_reducible repeat (first | apply Kd.R_alloc | apply Kd.R_drewN | apply Kd.R_drew)); exact HO_8.out))) (Kd.R_lt (by (with_reducible repeat (first | apply Kd.R_alloc | apply Kd.R_drewN | apply Kd.R_drew)); exact HO_10.out))) (Kd.R_lt (by (with_reducible repeat (first | apply Kd.R_alloc | apply Kd.R_drewN | apply Kd.R_drew)); exact HO538.out))) (below_size (by repeat (first | (with_reducible first | exact HB.out | apply below_alloc | apply pw_below_drewN | apply below_drew1) | exact HB.out)))); have n5_ := Aside0.mk (below_step (by repeat (first | (with_reducible first | exact HB.out | apply below_alloc | apply pw_below_drewN | apply below_drew1) | exact HB.out)) hb); clear HO_7; clear HO_8; clear HO_10; clear HO538; clear HB; have HO_7 := n0_; have HO_8 := n1_; have HO_10 := n2_; have HO538 := n3_; have HO541 := n4_; have HB := n5_; clear n0_ n1_ n2_ n3_ n4_ n5_; (try clear hb); (try clear hb2); (try clear hk); (try clear hi); (try clear ho0)) | (go_at_call 21; (with_reducible refine (penumbraref01_Mul.calls kj41 _ _ t536 _ _ x7_1 t542 _ ?side1 ?side2 ?side3 ?side4 A46.out).mono ?_); (case side1 => repeat (first | exact (Kd.R_reads' HO538.out).2.2 | (with_reducible refine Kd.C_alloc ?_ _) | (with_reducible refine Kd.C_drewN ?_ _) | (with_reducible refine Kd.C_drew ?_))); (case side2 => exact (Kd.R_reads' HO538.out).2.1); (case side3 => repeat (first | exact (Kd.R_reads' HO_7.out).2.2 | (with_reducible refine Kd.C_alloc ?_ _) | (with_reducible refine Kd.C_drewN ?_ _) | (with_reducible refine Kd.C_drew ?_))); (case side4 => exact (Kd.R_reads' HO_7.out).2.1); rintro e w52 ⟨v543, rfl, ho0, hb⟩; have n0_ := Aside0.mk (Kd.R_elder' (by (with_reducible repeat (first | apply Kd.R_alloc | apply Kd.R_drewN | apply Kd.R_drew)); exact HO_7.out) (Kd.R_base ho0) hb); have n1_ := Aside0.mk (Kd.R_elder' (by (with_reducible repeat (first | apply Kd.R_alloc | apply Kd.R_drewN | apply Kd.R_drew)); exact HO_8.out) (Kd.R_base ho0) hb); have n2_ := Aside0.mk (Kd.R_elder' (by (with_reducible repeat (first | apply Kd.R_alloc | apply Kd.R_drewN | apply Kd.R_drew)); exact HO_10.out) (Kd.R_base ho0) hb); have n3_ := Aside0.mk (Kd.R_elder' (by (with_reducible repeat (first | apply Kd.R_alloc | apply Kd.R_drewN | apply Kd.R_drew)); exact HO538.out) (Kd.R_base ho0) hb); have n4_ := Aside0.mk (Kd.R_elder' (by (with_reducible repeat (first | apply Kd.R_alloc | apply Kd.R_drewN | apply Kd.R_drew)); exact HO541.out) (Kd.R_base ho0) hb); have n5_ := Aside0.mk (Kd.R_lower (Kd.R_new' (Kd.R_new' (Kd.R_new' (Kd.R_new' (Kd.R_new' ho0 (Kd.R_lt (by (with_reducible repeat (first | apply Kd.R_alloc | apply Kd.R_drewN | apply Kd.R_drew)); exact HO_7.out))) (Kd.R_lt (by (with_reducible repeat (first | apply Kd.R_alloc | apply Kd.R_drewN | apply Kd.R_drew)); exact HO_8.out))) (Kd.R_lt (by (with_reducible repeat (first | apply Kd.R_alloc | apply Kd.R_drewN | apply Kd.R_drew)); exact HO_10.out))) (Kd.R_lt (by (with_reducible repeat (first | apply Kd.R_alloc | apply Kd.R_drewN | apply Kd.R_drew)); exact HO538.out))) (Kd.R_lt (by (with_reducible repeat (first | apply Kd.R_alloc | apply Kd.R_drewN | apply Kd.R_drew)); exact HO541.out))) (below_size (by repeat (first | (with_reducible first | exact HB.out | apply below_alloc | apply pw_below_drewN | apply below_drew1) | exact HB.out)))); have n6_ := Aside0.mk (below_step (by repeat (first | (with_reducible first | exact HB.out | apply below_alloc | apply pw_below_drewN | apply below_drew1) | exact HB.out)) hb); clear HO_7; clear HO_8; clear HO_10; clear HO538; clear HO541; clear HB; have HO_7 := n0_; have HO_8 := n1_; have HO_10 := n2_; have HO538 := n3_; have HO541 := n4_; have HO544 := n5_; have HB := n6_; clear n0_ n1_ n2_ n3_ n4_ n5_ n6_; (try clear hb); (try clear hb2); (try clear hk); (try clear hi); (try clear ho0); obtain ⟨Ao53, co53, eo53⟩ := Kd.R_slice HO544.out; subst eo53) | (go_at_call 30; (with_reducible refine (penumbraref01_Sub.calls kj41 _ _ x8_2 _ _ t542 t545 t546 _ ?side1 ?side2 ?side3 ?side4 A47.out).mono ?_); (case side1 => repeat (first | exact (Kd.R_reads' HO_8.out).2.2 | (with_reducible refine Kd.C_alloc ?_ _) | (with_reducible refine Kd.C_drewN ?_ _) | (with_reducible refine Kd.C_drew ?_))); (case side2 => exact (Kd.R_reads' HO_8.out).2.1); (case side3 => repeat (first | exact (Kd.R_reads' HO544.out).2.2 | (with_reducible refine Kd.C_alloc ?_ _) | (with_reducible refine Kd.C_drewN ?_ _) | (with_reducible refine Kd.C_drew ?_))); (case side4 => exact (Kd.R_reads' HO544.out).2.1); rintro e w54 ⟨v547, rfl, ho0, hb⟩; have n0_ := Aside0.mk (Kd.R_elder' (by (with_reducible repeat (first | apply Kd.R_alloc | apply Kd.R_drewN | apply Kd.R_drew)); exact HO_7.out) (Kd.R_base ho0) hb); have n1_ := Aside0.mk (Kd.R_elder' (by (with_reducible repeat (first | apply Kd.R_alloc | apply Kd.R_drewN | apply Kd.R_drew)); exact HO_8.out) (Kd.R_base ho0) hb); have n2_ := Aside0.mk (Kd.R_elder' (by (with_reducible repeat (first | apply Kd.R_alloc | apply Kd.R_drewN | apply Kd.R_drew)); exact HO_10.out) (Kd.R_base ho0) hb); have n3_ := Aside0.mk (Kd.R_elder' (by (with_reducible repeat (first | apply Kd.R_alloc | apply Kd.R_drewN | apply Kd.R_drew)); exact HO538.out) (Kd.R_base ho0) hb); have n4_ := Aside0.mk (Kd.R_elder' (by (with_reducible repeat (first | apply Kd.R_alloc | apply Kd.R_drewN | apply Kd.R_drew)); exact HO541.out) (Kd.R_base ho0) hb); have n5_ := Aside0.mk (Kd.R_elder' (by (with_reducible repeat (first | apply Kd.R_alloc | apply Kd.R_drewN | apply Kd.R_drew)); exact HO544.out) (Kd.R_base ho0) hb); have n6_ := Aside0.mk (Kd.R_lower (Kd.R_new' (Kd.R_new' (Kd.R_new' (Kd.R_new' (Kd.R_new' (Kd.R_new' ho0 (Kd.R_lt (by (with_reducible repeat (first | apply Kd.R_alloc | apply Kd.R_drewN | apply Kd.R_drew)); exact HO_7.out))) (Kd.R_lt (by (with_reducible repeat (first | apply Kd.R_alloc | apply Kd.R_drewN | apply Kd.R_drew)); exact HO_8.out))) (Kd.R_lt (by (with_reducible repeat (first | apply Kd.R_alloc | apply Kd.R_drewN | apply Kd.R_drew)); exact HO_10.out))) (Kd.R_lt (by (with_reducible repeat (first | apply Kd.R_alloc | apply Kd.R_drewN | apply Kd.R_drew)); exact HO538.out))) (Kd.R_lt (by (with_reducible repeat (first | apply Kd.R_alloc | apply Kd.R_drewN | apply Kd.R_drew)); exact HO541.out))) (Kd.R_lt (by (with_reducible repeat (first | apply Kd.R_alloc | apply Kd.R_drewN | apply Kd.R_drew)); exact HO544.out))) (below_size (by repeat (first | (with_reducible first | exact HB.out | apply below_alloc | apply pw_below_drewN | apply below_drew1) | exact HB.out)))); have n7_ := Aside0.mk (below_step (by repeat (first | (with_reducible first | exact HB.out | apply below_alloc | apply pw_below_drewN | apply below_drew1) | exact HB.out)) hb); clear HO_7; clear HO_8; clear HO_10; clear HO538; clear HO541; clear HO544; clear HB; have HO_7 := n0_; have HO_8 := n1_; have HO_10 := n2_; have HO538 := n3_; have HO541 := n4_; have HO544 := n5_; have HO548 := n6_; have HB := n7_; clear n0_ n1_ n2_ n3_ n4_ n5_ n6_ n7_; (try clear hb); (try clear hb2); (try clear hk); (try clear hi); (try clear ho0))))
                                      go_roundg kj41
                                      case measure => have := HK1.out; have := HK2.out; have := HJ29.out; have := HJ33.out; have := HJ41.out; omega
                                      case rel => exact ⟨(t545), (t539), H', ⟨by have := HK1.out; have := HK2.out; have := HJ29.out; have := HJ33.out; have := HJ41.out; omega⟩, ⟨by (with_reducible repeat (first | apply Kd.R_alloc | apply Kd.R_drewN | apply Kd.R_drew)); exact Kd.R_mono HO_7.out (fun _ hk => ⟨hk.2, hk.1.1.2⟩)⟩, ⟨by (with_reducible repeat (first | apply Kd.R_alloc | apply Kd.R_drewN | apply Kd.R_drew)); exact Kd.R_mono HO548.out (fun _ hk => ⟨hk.1.1.1.1.1.2, hk.1.2⟩)⟩, ⟨by (with_reducible repeat (first | apply Kd.R_alloc | apply Kd.R_drewN | apply Kd.R_drew)); exact Kd.R_mono HO541.out (fun _ hk => ⟨hk.1.1.1.1.1.2, hk.2⟩)⟩, ⟨by repeat (first | (with_reducible first | exact HB.out | apply below_alloc | apply pw_below_drewN | apply below_drew1) | exact HB.out)⟩⟩
                      · rw [if_neg c28] at H
                        exact absurd H (by simp)
                    · rw [if_neg c27] at H
                      exact absurd H (by simp)
                  · rw [if_neg c25] at H
                    have c25b0 : decide (0 ≤ t532) = false := decide_eq_false c25
                    clear c25
                    have H' := Aside0.mk H
                    clear H
                    obtain ⟨Ao55, co55, eo55⟩ := Kd.R_slice HO_8.out
                    subst eo55
                    go_wp2_with (first | (go_at_call 32; (with_reducible refine (penumbraref01_Cmp.calls k2 _ _ x8_2 _ _ x7_1 t532 _ ?side1 ?side2 ?side3 ?side4 A24.out).mono ?_); (case side1 => repeat (first | exact (Kd.R_reads' HO_8.out).2.2 | (with_reducible refine Kd.C_alloc ?_ _) | (with_reducible refine Kd.C_drewN ?_ _) | (with_reducible refine Kd.C_drew ?_))); (case side2 => exact (Kd.R_reads' HO_8.out).2.1); (case side3 => repeat (first | exact (Kd.R_reads' HO_7.out).2.2 | (with_reducible refine Kd.C_alloc ?_ _) | (with_reducible refine Kd.C_drewN ?_ _) | (with_reducible refine Kd.C_drew ?_))); (case side4 => exact (Kd.R_reads' HO_7.out).2.1); rintro e w56 ⟨rfl, hb⟩; have n0_ := Aside0.mk (Kd.R_below (by (with_reducible repeat (first | apply Kd.R_alloc | apply Kd.R_drewN | apply Kd.R_drew)); exact HO_7.out) hb); have n1_ := Aside0.mk (Kd.R_below (by (with_reducible repeat (first | apply Kd.R_alloc | apply Kd.R_drewN | apply Kd.R_drew)); exact HO_8.out) hb); have n2_ := Aside0.mk (Kd.R_below (by (with_reducible repeat (first | apply Kd.R_alloc | apply Kd.R_drewN | apply Kd.R_drew)); exact HO_10.out) hb); have n3_ := Aside0.mk (below_step (by repeat (first | (with_reducible first | exact HB.out | apply below_alloc | apply pw_below_drewN | apply below_drew1) | exact HB.out)) hb); clear HO_7; clear HO_8; clear HO_10; clear HB; have HO_7 := n0_; have HO_8 := n1_; have HO_10 := n2_; have HB := n3_; clear n0_ n1_ n2_ n3_; (try clear hb); (try clear hb2); (try clear hk); (try clear hi)))
                    repeat (go_quiet (first | (go_at_call 32; (with_reducible refine (penumbraref01_Cmp.calls k2 _ _ x8_2 _ _ x7_1 t532 _ ?side1 ?side2 ?side3 ?side4 A24.out).mono ?_); (case side1 => repeat (first | exact (Kd.R_reads' HO_8.out).2.2 | (with_reducible refine Kd.C_alloc ?_ _) | (with_reducible refine Kd.C_drewN ?_ _) | (with_reducible refine Kd.C_drew ?_))); (case side2 => exact (Kd.R_reads' HO_8.out).2.1); (case side3 => repeat (first | exact (Kd.R_reads' HO_7.out).2.2 | (with_reducible refine Kd.C_alloc ?_ _) | (with_reducible refine Kd.C_drewN ?_ _) | (with_reducible refine Kd.C_drew ?_))); (case side4 => exact (Kd.R_reads' HO_7.out).2.1); rintro e w56 ⟨rfl, hb⟩; have n0_ := Aside0.mk (Kd.R_below (by (with_reducible repeat (first | apply Kd.R_alloc | apply Kd.R_drewN | apply Kd.R_drew)); exact HO_7.out) hb); have n1_ := Aside0.mk (Kd.R_below (by (with_reducible repeat (first | apply Kd.R_alloc | apply Kd.R_drewN | apply Kd.R_drew)); exact HO_8.out) hb); have n2_ := Aside0.mk (Kd.R_below (by (with_reducible repeat (first | apply Kd.R_alloc | apply Kd.R_drewN | apply Kd.R_drew)); exact HO_10.out) hb); have n3_ := Aside0.mk (below_step (by repeat (first | (with_reducible first | exact HB.out | apply below_alloc | apply pw_below_drewN | apply below_drew1) | exact HB.out)) hb); clear HO_7; clear HO_8; clear HO_10; clear HB; have HO_7 := n0_; have HO_8 := n1_; have HO_10 := n2_; have HB := n3_; clear n0_ n1_ n2_ n3_; (try clear hb); (try clear hb2); (try clear hk); (try clear hi))); try go_wp2_with (first | (go_at_call 32; (with_reducible refine (penumbraref01_Cmp.calls k2 _ _ x8_2 _ _ x7_1 t532 _ ?side1 ?side2 ?side3 ?side4 A24.out).mono ?_); (case side1 => repeat (first | exact (Kd.R_reads' HO_8.out).2.2 | (with_reducible refine Kd.C_alloc ?_ _) | (with_reducible refine Kd.C_drewN ?_ _) | (with_reducible refine Kd.C_drew ?_))); (case side2 => exact (Kd.R_reads' HO_8.out).2.1); (case side3 => repeat (first | exact (Kd.R_reads' HO_7.out).2.2 | (with_reducible refine Kd.C_alloc ?_ _) | (with_reducible refine Kd.C_drewN ?_ _) | (with_reducible refine Kd.C_drew ?_))); (case side4 => exact (Kd.R_reads' HO_7.out).2.1); rintro e w56 ⟨rfl, hb⟩; have n0_ := Aside0.mk (Kd.R_below (by (with_reducible repeat (first | apply Kd.R_alloc | apply Kd.R_drewN | apply Kd.R_drew)); exact HO_7.out) hb); have n1_ := Aside0.mk (Kd.R_below (by (with_reducible repeat (first | apply Kd.R_alloc | apply Kd.R_drewN | apply Kd.R_drew)); exact HO_8.out) hb); have n2_ := Aside0.mk (Kd.R_below (by (with_reducible repeat (first | apply Kd.R_alloc | apply Kd.R_drewN | apply Kd.R_drew)); exact HO_10.out) hb); have n3_ := Aside0.mk (below_step (by repeat (first | (with_reducible first | exact HB.out | apply below_alloc | apply pw_below_drewN | apply below_drew1) | exact HB.out)) hb); clear HO_7; clear HO_8; clear HO_10; clear HB; have HO_7 := n0_; have HO_8 := n1_; have HO_10 := n2_; have HB := n3_; clear n0_ n1_ n2_ n3_; (try clear hb); (try clear hb2); (try clear hk); (try clear hi))))
                    go_loopg [8, 17] k2 (fun kq v8 v17 w' => ∃ (x8_3 : List Int) (x17_3 : Int), v17 = .int .i64 x17_3 ∧ Aside0 (penumbraref01_DivMod.l2 kq x8_3 x9_1 x10_2 x17_3 = some (r1, r2, r3)) ∧ Aside0 (kq ≤ k2) ∧ Aside0 (Kd.R (Kd.int .u32) 32 w' w.heap.size (fun k_ => some k_ ≠ (u10 : Value).ownBlock) v8 x8_3) ∧ Aside0 (Kd.R (Kd.int .u32) 32 w' w.heap.size (fun k_ => some k_ ≠ (v8 : Value).ownBlock) u10 x10_2) ∧ Aside0 (Below w.heap.size w w'))
                    case atStart => exact ⟨(x8_2), (0), (by first | rfl | (simp; done) | (simp [*]; done)), H', ⟨Nat.le_refl _⟩, ⟨by (with_reducible repeat (first | apply Kd.R_alloc | apply Kd.R_drewN | apply Kd.R_drew)); exact Kd.R_mono HO_8.out (fun _ hk => hk.2)⟩, ⟨by (with_reducible repeat (first | apply Kd.R_alloc | apply Kd.R_drewN | apply Kd.R_drew)); exact Kd.R_mono HO_10.out (fun _ hk => hk.2)⟩, ⟨by repeat (first | (with_reducible first | exact HB.out | apply below_alloc | apply pw_below_drewN | apply below_drew1) | exact HB.out)⟩⟩
                    case round =>
                      clear H'
                      try clear c1
                      try clear c2
                      try clear p2
                      try clear c3
                      try clear c4
                      try clear p5
                      try clear q5
                      try clear hx5
                      try clear p6
                      try clear c12
                      try clear c12b0
                      try clear c13
                      try clear c13b0
                      try clear c14
                      try clear c14b0
                      try clear c25
                      try clear c25b0
                      try clear c27
                      try clear c27b0
                      try clear c28
                      try clear c28b0
                      try clear c29
                      try clear c29b0
                      try clear c29b1
                      try clear c33
                      try clear c33b0
                      try clear c33b1
                      try clear c35
                      try clear c36
                      try clear c36b0
                      try clear c37
                      try clear c37b0
                      try clear c39
                      try clear c39b0
                      try clear c40
                      try clear c40b0
                      try clear c41
                      try clear c41b0
                      try clear c41b1
                      try clear c43
                      try clear c43b0
                      try clear c43b1
                      try clear p52
                      try clear q52
                      try clear hx52
                      try clear p53
                      try clear q53
                      try clear hx53
                      try clear hx521_0
                      try clear hx531_0
                      try clear hx533_0
                      try clear hx534_0
                      try clear hx535_0
                      try clear p2
                      try clear p5
                      try clear p521
                      try clear p531
                      try clear p533
                      try clear p534
                      try clear p535
                      try clear p6
                      try clear q5
                      try clear q521
                      try clear q531
                      try clear q533
                      try clear q534
                      try clear q535
                      obtain ⟨x8_3, x17_3, rfl, HA, HK3, HO_8, HO_10, HB⟩ := hrel
                      cases gk with
                      | zero => exact absurd HA.out (by simp [penumbraref01_DivMod.l2])
                      | succ k3 =>
                        have H := HA.out
                        clear HA
                        simp only [penumbraref01_DivMod.l2] at H
                        by_cases c57 : x17_3 < x9_1
                        · rw [if_pos c57] at H
                          have c57b0 : decide (x17_3 < x9_1) = true := decide_eq_true c57
                          clear c57
                          replace H := Option.bind_eq_some_iff.mp H
                          obtain ⟨t549, A580, H⟩ := H
                          replace H : (penumbraref01_DivMod.l2 k3 t549 x9_1 x10_2 (wrap64 (x17_3 + 1))) = some (r1, r2, r3) := H
                          have A58 := Aside0.mk A580
                          clear A580
                          have H' := Aside0.mk H
                          clear H
                          obtain ⟨Ao59, co59, eo59⟩ := Kd.R_slice HO_8.out
                          subst eo59
                          go_wp2_with (first | (go_at_call 49; (with_reducible refine (penumbraref01_Half.calls k3 _ _ x8_3 t549 _ ?side1 ?side2 A58.out).mono ?_); (case side1 => repeat (first | exact (Kd.R_reads' HO_8.out).2.2 | (with_reducible refine Kd.C_alloc ?_ _) | (with_reducible refine Kd.C_drewN ?_ _) | (with_reducible refine Kd.C_drew ?_))); (case side2 => exact (Kd.R_reads' HO_8.out).2.1); rintro e w60 ⟨v550, rfl, ho0, hb⟩; have n0_ := Aside0.mk (Kd.R_elder' (by (with_reducible repeat (first | apply Kd.R_alloc | apply Kd.R_drewN | apply Kd.R_drew)); exact HO_8.out) (Kd.R_base ho0) hb); have n1_ := Aside0.mk (Kd.R_elder' (by (with_reducible repeat (first | apply Kd.R_alloc | apply Kd.R_drewN | apply Kd.R_drew)); exact HO_10.out) (Kd.R_base ho0) hb); have n2_ := Aside0.mk (Kd.R_lower (Kd.R_new' (Kd.R_new' ho0 (Kd.R_lt (by (with_reducible repeat (first | apply Kd.R_alloc | apply Kd.R_drewN | apply Kd.R_drew)); exact HO_8.out))) (Kd.R_lt (by (with_reducible repeat (first | apply Kd.R_alloc | apply Kd.R_drewN | apply Kd.R_drew)); exact HO_10.out))) (below_size (by repeat (first | (with_reducible first | exact HB.out | apply below_alloc | apply pw_below_drewN | apply below_drew1) | exact HB.out)))); have n3_ := Aside0.mk (below_step (by repeat (first | (with_reducible first | exact HB.out | apply below_alloc | apply pw_below_drewN | apply below_drew1) | exact HB.out)) hb); clear HO_8; clear HO_10; clear HB; have HO_8 := n0_; have HO_10 := n1_; have HO551 := n2_; have HB := n3_; clear n0_ n1_ n2_ n3_; (try clear hb); (try clear hb2); (try clear hk); (try clear hi); (try clear ho0)))
                          repeat (go_quiet (first | (go_at_call 49; (with_reducible refine (penumbraref01_Half.calls k3 _ _ x8_3 t549 _ ?side1 ?side2 A58.out).mono ?_); (case side1 => repeat (first | exact (Kd.R_reads' HO_8.out).2.2 | (with_reducible refine Kd.C_alloc ?_ _) | (with_reducible refine Kd.C_drewN ?_ _) | (with_reducible refine Kd.C_drew ?_))); (case side2 => exact (Kd.R_reads' HO_8.out).2.1); rintro e w60 ⟨v550, rfl, ho0, hb⟩; have n0_ := Aside0.mk (Kd.R_elder' (by (with_reducible repeat (first | apply Kd.R_alloc | apply Kd.R_drewN | apply Kd.R_drew)); exact HO_8.out) (Kd.R_base ho0) hb); have n1_ := Aside0.mk (Kd.R_elder' (by (with_reducible repeat (first | apply Kd.R_alloc | apply Kd.R_drewN | apply Kd.R_drew)); exact HO_10.out) (Kd.R_base ho0) hb); have n2_ := Aside0.mk (Kd.R_lower (Kd.R_new' (Kd.R_new' ho0 (Kd.R_lt (by (with_reducible repeat (first | apply Kd.R_alloc | apply Kd.R_drewN | apply Kd.R_drew)); exact HO_8.out))) (Kd.R_lt (by (with_reducible repeat (first | apply Kd.R_alloc | apply Kd.R_drewN | apply Kd.R_drew)); exact HO_10.out))) (below_size (by repeat (first | (with_reducible first | exact HB.out | apply below_alloc | apply pw_below_drewN | apply below_drew1) | exact HB.out)))); have n3_ := Aside0.mk (below_step (by repeat (first | (with_reducible first | exact HB.out | apply below_alloc | apply pw_below_drewN | apply below_drew1) | exact HB.out)) hb); clear HO_8; clear HO_10; clear HB; have HO_8 := n0_; have HO_10 := n1_; have HO551 := n2_; have HB := n3_; clear n0_ n1_ n2_ n3_; (try clear hb); (try clear hb2); (try clear hk); (try clear hi); (try clear ho0))); try go_wp2_with (first | (go_at_call 49; (with_reducible refine (penumbraref01_Half.calls k3 _ _ x8_3 t549 _ ?side1 ?side2 A58.out).mono ?_); (case side1 => repeat (first | exact (Kd.R_reads' HO_8.out).2.2 | (with_reducible refine Kd.C_alloc ?_ _) | (with_reducible refine Kd.C_drewN ?_ _) | (with_reducible refine Kd.C_drew ?_))); (case side2 => exact (Kd.R_reads' HO_8.out).2.1); rintro e w60 ⟨v550, rfl, ho0, hb⟩; have n0_ := Aside0.mk (Kd.R_elder' (by (with_reducible repeat (first | apply Kd.R_alloc | apply Kd.R_drewN | apply Kd.R_drew)); exact HO_8.out) (Kd.R_base ho0) hb); have n1_ := Aside0.mk (Kd.R_elder' (by (with_reducible repeat (first | apply Kd.R_alloc | apply Kd.R_drewN | apply Kd.R_drew)); exact HO_10.out) (Kd.R_base ho0) hb); have n2_ := Aside0.mk (Kd.R_lower (Kd.R_new' (Kd.R_new' ho0 (Kd.R_lt (by (with_reducible repeat (first | apply Kd.R_alloc | apply Kd.R_drewN | apply Kd.R_drew)); exact HO_8.out))) (Kd.R_lt (by (with_reducible repeat (first | apply Kd.R_alloc | apply Kd.R_drewN | apply Kd.R_drew)); exact HO_10.out))) (below_size (by repeat (first | (with_reducible first | exact HB.out | apply below_alloc | apply pw_below_drewN | apply below_drew1) | exact HB.out)))); have n3_ := Aside0.mk (below_step (by repeat (first | (with_reducible first | exact HB.out | apply below_alloc | apply pw_below_drewN | apply below_drew1) | exact HB.out)) hb); clear HO_8; clear HO_10; clear HB; have HO_8 := n0_; have HO_10 := n1_; have HO551 := n2_; have HB := n3_; clear n0_ n1_ n2_ n3_; (try clear hb); (try clear hb2); (try clear hk); (try clear hi); (try clear ho0))))
                          go_roundg k3
                          case measure => have := HK1.out; have := HK2.out; have := HK3.out; omega
                          case rel => exact ⟨(t549), (wrap64 (x17_3 + 1)), (by first | rfl | (simp; done) | (simp [*]; done)), H', ⟨by have := HK1.out; have := HK2.out; have := HK3.out; omega⟩, ⟨by (with_reducible repeat (first | apply Kd.R_alloc | apply Kd.R_drewN | apply Kd.R_drew)); exact Kd.R_mono HO551.out (fun _ hk => hk.2)⟩, ⟨by (with_reducible repeat (first | apply Kd.R_alloc | apply Kd.R_drewN | apply Kd.R_drew)); exact Kd.R_mono HO_10.out (fun _ hk => hk.2)⟩, ⟨by repeat (first | (with_reducible first | exact HB.out | apply below_alloc | apply pw_below_drewN | apply below_drew1) | exact HB.out)⟩⟩
                        · rw [if_neg c57] at H
                          have c57b0 : decide (x17_3 < x9_1) = false := decide_eq_false c57
                          clear c57
                          simp only [Option.some.injEq, Prod.mk.injEq] at H
                          obtain ⟨rfl, rfl, rfl⟩ := H
                          go_wp2
                          repeat (go_quiet (fail); try go_wp2)
                          go_ret3
                          exact ⟨_, _, by first | rfl | (simp [errW_none, errW_some] <;> rfl) | (simp only [← hji11]; first | rfl | (simp [errW_none, errW_some] <;> rfl)) | (simp [*, errW_none, errW_some] <;> rfl), by (with_reducible repeat (first | apply Kd.R_alloc | apply Kd.R_drewN | apply Kd.R_drew)); exact HO_10.out, by (with_reducible repeat (first | apply Kd.R_alloc | apply Kd.R_drewN | apply Kd.R_drew)); exact HO_8.out, by repeat (first | (with_reducible first | exact HB.out | apply below_alloc | apply pw_below_drewN | apply below_drew1) | exact HB.out)⟩
          · rw [if_neg c13] at H
            exact absurd H (by simp)
        · rw [if_neg c12] at H
          exact absurd H (by simp)


end Go.Proofs.Ytplioajciapojaa.Pq
