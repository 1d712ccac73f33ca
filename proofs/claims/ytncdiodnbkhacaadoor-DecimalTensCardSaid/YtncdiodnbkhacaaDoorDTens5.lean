import Derived.Test.YtncdiodnbkhacaaDoorDTens4
section
namespace Go.Proofs.YtncdiodnbkhacaaDoor.Pq
open Go.RowKit Go.Proofs.YtncdiodnbkhacaaDoorW.PrintWords Go.Proofs.YtncdiodnbkhacaaDoorW.PrintLast Go.Proofs.YtncdiodnbkhacaaDoorW.PrintMore
attribute [local go_sem] max2_int min2_int max_two min_two max_three min_three max_four min_four
set_option linter.unusedVariables false
set_option linter.unusedSimpArgs false
theorem penumbraref03_Of.mono : ∀ a0 a1 k, LeO (penumbraref03_Of.f k a0 a1) (penumbraref03_Of.f (k + 1) a0 a1) := by
 intro a0 a1 k
 unfold penumbraref03_Of.f
 with_reducible repeat' first
   | exact penumbraref03_Read.mono _ _ _ _
   | exact penumbraref03_abs.mono _ _
   | exact LeO.refl _
   | exact LeO.none _
   | refine LeO.ite ?_ ?_
   | refine LeO.bind ?_ (fun _ => ?_)
set_option maxHeartbeats 8000000 in
set_option maxRecDepth 100000 in
theorem penumbraref03_Of.calls (k : Nat) (a0 : Int) (a1 : Int) (r1 : Bool) (r2 : List Int) (r3 : List Int) (w : World) (h : penumbraref03_Of.f k a0 a1 = some (r1, r2, r3)) :
  Calls Tryd.prog 23 #[.int .i64 a0, .int .i64 a1] w fun e w' => ∃ v1_ v2_ : Value, e = .returned (.agg #[.bool r1, v1_, v2_]) ∧ Kd.R (Kd.int .u32) 35 w' w.heap.size (fun k_ => some k_ ≠ (v2_ : Value).ownBlock) v1_ r2 ∧ Kd.R (Kd.int .u32) 35 w' w.heap.size (fun k_ => some k_ ≠ (v1_ : Value).ownBlock) v2_ r3 ∧ Below w.heap.size w w' := by
 have hu25 := Tryd.underlying25
 have HB := Aside0.mk (Below.refl w.heap.size w)
 have H : (if a0 < 0 then (if a1 ≥ 0 then ((penumbraref03_abs.f k a0).bind fun t601 => ((penumbraref03_abs.f k a1).bind fun t604 => ((penumbraref03_Read.f k true t601 t604).bind fun bt607 => (some (bt607.1, bt607.2.1, bt607.2.2))))) else (if a0 ≥ 0 then ((penumbraref03_abs.f k a0).bind fun t614 => ((penumbraref03_abs.f k a1).bind fun t617 => ((penumbraref03_Read.f k (decide (a1 < 0)) t614 t617).bind fun bt620 => (some (bt620.1, bt620.2.1, bt620.2.2))))) else ((penumbraref03_abs.f k a0).bind fun t627 => ((penumbraref03_abs.f k a1).bind fun t630 => ((penumbraref03_Read.f k false t627 t630).bind fun bt633 => (some (bt633.1, bt633.2.1, bt633.2.2))))))) else (if a0 ≥ 0 then ((penumbraref03_abs.f k a0).bind fun t640 => ((penumbraref03_abs.f k a1).bind fun t643 => ((penumbraref03_Read.f k (decide (a1 < 0)) t640 t643).bind fun bt646 => (some (bt646.1, bt646.2.1, bt646.2.2))))) else ((penumbraref03_abs.f k a0).bind fun t653 => ((penumbraref03_abs.f k a1).bind fun t656 => ((penumbraref03_Read.f k false t653 t656).bind fun bt659 => (some (bt659.1, bt659.2.1, bt659.2.2))))))) = some (r1, r2, r3) := h
 clear h
 by_cases c3 : a0 < 0
 ·rw [if_pos c3] at H
  have c3b0 : decide (a0 < 0) = true := decide_eq_true c3
  clear c3
  by_cases c4 : a1 ≥ 0
  ·rw [if_pos c4] at H
   have c4b0 : decide (0 ≤ a1) = true := decide_eq_true c4
   clear c4
   replace H := Option.bind_eq_some_iff.mp H
   obtain ⟨t601, A50, H⟩ := H
   try dsimp only at H
   have A5 := Aside0.mk A50
   clear A50
   replace H := Option.bind_eq_some_iff.mp H
   obtain ⟨t604, A60, H⟩ := H
   try dsimp only at H
   have A6 := Aside0.mk A60
   clear A60
   replace H := Option.bind_eq_some_iff.mp H
   obtain ⟨⟨t607, t608, t611⟩, A70, H⟩ := H
   try dsimp only at H
   have A7 := Aside0.mk A70
   clear A70
   simp only [Option.some.injEq, Prod.mk.injEq] at H
   obtain ⟨rfl, rfl, rfl⟩ := H
   go_enter Tryd.func23, Tryd.ntmps23
   go_wp2_with (first | ((with_reducible refine gate_dst (N := 4) rfl ?_); refine box_event ?hg (N := 4) ?hd (cs := #[.bool false, .slice none 0 0, .slice none 0 0]) (t := 25) ?hr ?_; (case hd => rfl); (case hg => rfl); (case hr => first | (go_simp; done) | (go_simp; (with_reducible rfl)) | (go_simp; rfl) | (go_simp; simp only [hu, Int.emod_sub_emod])); intro gb600 hg w8 hbox hb; have n0_ := Aside0.mk (below_step (by repeat (first | with_reducible exact HB.out | apply ba | apply bn | apply b1)) hb); have n1_ := Aside0.mk (hbox); have n2_ := Aside0.mk ((by rw [hg]; exact (below_size (by repeat (first | with_reducible exact HB.out | apply ba | apply bn | apply b1))) : w.heap.size ≤ gb600)); have n3_ := Aside0.mk ((by rw [hg]; exact (below_size (by repeat (first | with_reducible exact HB.out | apply ba | apply bn | apply b1))) : w.heap.size ≤ gb600)); clear HB; have HB := n0_; have BK600 := n1_; have GW600 := n2_; have GE600 := n3_; clear n0_ n1_ n2_ n3_; clear hb hbox hg) | ((with_reducible refine gate_callee (f := 49) rfl ?_); refine goesL_ (some 20) rfl rfl Tryd.func49 (by kernel_rfl) rfl #[.int .i64 a0] rfl (by (try simp only [List.map_toArray, List.map_cons, List.map_nil]); first | done | rfl) ?_; (with_reducible refine (penumbraref03_abs.calls k a0 t601 _ A5.out).mono ?_); rintro e w9 ⟨v602, rfl, ho0, hb⟩; refine ⟨_, rfl, ?_⟩; have n0_ := Aside0.mk (Kd.R_lower ho0 (below_size (by repeat (first | with_reducible exact HB.out | apply ba | apply bn | apply b1 | refine below_set ?_ GE600.out)))); have n1_ := Aside0.mk (blk_below (g := gb600) (o := .cells #[.bool false, .slice none 0 0, .slice none 0 0] 25 (0, 0)) (by (with_reducible repeat (first | refine blk_drewN ?_ _ | refine blk_drew ?_ | refine blk_alloc ?_ _)); exact BK600.out) hb); have n2_ := Aside0.mk (below_step (by repeat (first | with_reducible exact HB.out | apply ba | apply bn | apply b1 | refine below_set ?_ GE600.out)) hb); clear BK600; clear HB; have HO603 := n0_; have BK600 := n1_; have HB := n2_; clear n0_ n1_ n2_) | ((with_reducible refine gate_callee (f := 49) rfl ?_); refine goesL_ (some 22) rfl rfl Tryd.func49 (by kernel_rfl) rfl #[.int .i64 a1] rfl (by (try simp only [List.map_toArray, List.map_cons, List.map_nil]); first | done | rfl) ?_; (with_reducible refine (penumbraref03_abs.calls k a1 t604 _ A6.out).mono ?_); rintro e w10 ⟨v605, rfl, ho0, hb⟩; refine ⟨_, rfl, ?_⟩; have n0_ := Aside0.mk (Kd.R_elder' (by (with_reducible repeat (first | apply Ra | apply Rn | apply Rd)); exact HO603.out) (Kd.R_base ho0) hb); have n1_ := Aside0.mk (Kd.R_lower (Kd.R_new' ho0 (Kd.R_lt (by (with_reducible repeat (first | apply Ra | apply Rn | apply Rd)); exact HO603.out))) (below_size (by repeat (first | with_reducible exact HB.out | apply ba | apply bn | apply b1 | refine below_set ?_ GE600.out)))); have n2_ := Aside0.mk (blk_below (g := gb600) (o := .cells #[.bool false, .slice none 0 0, .slice none 0 0] 25 (0, 0)) (by (with_reducible repeat (first | refine blk_drewN ?_ _ | refine blk_drew ?_ | refine blk_alloc ?_ _)); exact BK600.out) hb); have n3_ := Aside0.mk (below_step (by repeat (first | with_reducible exact HB.out | apply ba | apply bn | apply b1 | refine below_set ?_ GE600.out)) hb); clear HO603; clear BK600; clear HB; have HO603 := n0_; have HO606 := n1_; have BK600 := n2_; have HB := n3_; clear n0_ n1_ n2_ n3_; obtain ⟨Ao11, co11, eo11⟩ := Kd.R_slice HO606.out; subst eo11; obtain ⟨Ao12, co12, eo12⟩ := Kd.R_slice HO603.out; subst eo12) | ((with_reducible refine gate_callee (f := 34) rfl ?_); refine goesL_ (some 24) rfl rfl Tryd.func34 (by kernel_rfl) rfl #[.agg #[.bool true, .slice Ao12 t601.length co12, .slice Ao11 t604.length co11]] rfl (by (try simp only [List.map_toArray, List.map_cons, List.map_nil]); first | done | rfl) ?_; (with_reducible refine (penumbraref03_Read.calls k true _ _ t601 _ _ t604 t607 t608 t611 _ ?side1 ?side2 ?side3 ?side4 A7.out).mono ?_); (case side1 => repeat (first | exact (Kd.R_reads' HO603.out).2.2 | (with_reducible refine Kd.C_alloc ?_ _) | (with_reducible refine Kd.C_drewN ?_ _) | (with_reducible refine Kd.C_drew ?_))); (case side2 => exact (Kd.R_reads' HO603.out).2.1); (case side3 => repeat (first | exact (Kd.R_reads' HO606.out).2.2 | (with_reducible refine Kd.C_alloc ?_ _) | (with_reducible refine Kd.C_drewN ?_ _) | (with_reducible refine Kd.C_drew ?_))); (case side4 => exact (Kd.R_reads' HO606.out).2.1); rintro e w13 ⟨v609, v612, rfl, ho0, ho1, hb⟩; refine ⟨_, rfl, ?_⟩; have n0_ := Aside0.mk (Kd.R_mono (Kd.R_told (Kd.R_told (Kd.R_old (by (with_reducible repeat (first | apply Ra | apply Rn | apply Rd)); exact HO603.out) hb) (Kd.R_base ho0)) (Kd.R_base ho1)) (fun _ h_ => h_.1)); have n1_ := Aside0.mk (Kd.R_mono (Kd.R_told (Kd.R_told (Kd.R_old (by (with_reducible repeat (first | apply Ra | apply Rn | apply Rd)); exact HO606.out) hb) (Kd.R_base ho0)) (Kd.R_base ho1)) (fun _ h_ => h_.1)); have n2_ := Aside0.mk (Kd.R_lower (Kd.R_new' (Kd.R_new' ho0 (Kd.R_lt (by (with_reducible repeat (first | apply Ra | apply Rn | apply Rd)); exact HO603.out))) (Kd.R_lt (by (with_reducible repeat (first | apply Ra | apply Rn | apply Rd)); exact HO606.out))) (below_size (by repeat (first | with_reducible exact HB.out | apply ba | apply bn | apply b1 | refine below_set ?_ GE600.out)))); have n3_ := Aside0.mk (Kd.R_lower (Kd.R_new' (Kd.R_new' ho1 (Kd.R_lt (by (with_reducible repeat (first | apply Ra | apply Rn | apply Rd)); exact HO603.out))) (Kd.R_lt (by (with_reducible repeat (first | apply Ra | apply Rn | apply Rd)); exact HO606.out))) (below_size (by repeat (first | with_reducible exact HB.out | apply ba | apply bn | apply b1 | refine below_set ?_ GE600.out)))); have n4_ := Aside0.mk (blk_below (g := gb600) (o := .cells #[.bool false, .slice none 0 0, .slice none 0 0] 25 (0, 0)) (by (with_reducible repeat (first | refine blk_drewN ?_ _ | refine blk_drew ?_ | refine blk_alloc ?_ _)); exact BK600.out) hb); have n5_ := Aside0.mk (below_step (by repeat (first | with_reducible exact HB.out | apply ba | apply bn | apply b1 | refine below_set ?_ GE600.out)) hb); clear HO603; clear HO606; clear BK600; clear HB; have HO603 := n0_; have HO606 := n1_; have HO610 := n2_; have HO613 := n3_; have BK600 := n4_; have HB := n5_; clear n0_ n1_ n2_ n3_ n4_ n5_; have hcz14_0 : w13.cell? ⟨gb600, 0, none⟩ = some (.bool false) := (blk_cell BK600.out 0).trans rfl; have hcz14_1 : w13.cell? ⟨gb600, 1, none⟩ = some (.slice none 0 0) := (blk_cell BK600.out 1).trans rfl; have hcz14_2 : w13.cell? ⟨gb600, 2, none⟩ = some (.slice none 0 0) := (blk_cell BK600.out 2).trans rfl; have hfz14_0 := blk_frozen BK600.out 0; have hfz14_1 := blk_frozen BK600.out 1; have hfz14_2 := blk_frozen BK600.out 2; obtain ⟨Ao15, co15, eo15⟩ := Kd.R_slice HO610.out; subst eo15; obtain ⟨Ao16, co16, eo16⟩ := Kd.R_slice HO613.out; subst eo16))
   refine bodyPost_ret (results_cell_row rfl _ _ gb600 25 #[.bool t607, .slice Ao15 t608.length co15, .slice Ao16 t611.length co16] (0, 0) _ rfl (by (with_reducible repeat (first | refine blk_drewN ?_ _ | refine blk_drew ?_ | refine blk_alloc ?_ _)); refine blk_put (cs := #[.bool t607, .slice Ao15 t608.length co15, .slice none 0 0]) ?_ 2 _ rfl; (with_reducible repeat (first | refine blk_drewN ?_ _ | refine blk_drew ?_ | refine blk_alloc ?_ _)); refine blk_put (cs := #[.bool t607, .slice none 0 0, .slice none 0 0]) ?_ 1 _ rfl; (with_reducible repeat (first | refine blk_drewN ?_ _ | refine blk_drew ?_ | refine blk_alloc ?_ _)); refine blk_put (cs := #[.bool false, .slice none 0 0, .slice none 0 0]) ?_ 0 _ rfl; (with_reducible repeat (first | refine blk_drewN ?_ _ | refine blk_drew ?_ | refine blk_alloc ?_ _)); exact BK600.out) Tryd.underlying25 rfl (by kernel_rfl)) rfl ?_
   exact ⟨_, _, by first | rfl | (simp [errW_none, errW_some] <;> rfl) | (simp [*, errW_none, errW_some] <;> rfl), by (with_reducible repeat (first | apply Ra | apply Rn | apply Rd)); exact Kd.R_mono (Kd.R_far (p := ⟨gb600, 2, none⟩) (Kd.R_far (p := ⟨gb600, 1, none⟩) (Kd.R_far (p := ⟨gb600, 0, none⟩) (Kd.R_types HO610.out BK600.out (by decide)) (fun _ hk => hk.2) (.bool t607)) (fun _ hk => hk.2) (.slice Ao15 t608.length co15)) (fun _ hk => hk.2) (.slice Ao16 t611.length co16)) (fun _ hk => hk.1.1.1), by (with_reducible repeat (first | apply Ra | apply Rn | apply Rd)); exact Kd.R_mono (Kd.R_far (p := ⟨gb600, 2, none⟩) (Kd.R_far (p := ⟨gb600, 1, none⟩) (Kd.R_far (p := ⟨gb600, 0, none⟩) (Kd.R_types HO613.out BK600.out (by decide)) (fun _ hk => hk.2) (.bool t607)) (fun _ hk => hk.2) (.slice Ao15 t608.length co15)) (fun _ hk => hk.2) (.slice Ao16 t611.length co16)) (fun _ hk => hk.1.1.1), by repeat (first | with_reducible exact HB.out | apply ba | apply bn | apply b1 | refine below_set ?_ GE600.out)⟩
  ·rw [if_neg c4] at H
   have c4b0 : decide (0 ≤ a1) = false := decide_eq_false c4
   clear c4
   by_cases c17 : a0 ≥ 0
   ·rw [if_pos c17] at H
    have c17b0 : decide (0 ≤ a0) = true := decide_eq_true c17
    clear c17
    replace H := Option.bind_eq_some_iff.mp H
    obtain ⟨t614, A180, H⟩ := H
    try dsimp only at H
    have A18 := Aside0.mk A180
    clear A180
    replace H := Option.bind_eq_some_iff.mp H
    obtain ⟨t617, A190, H⟩ := H
    try dsimp only at H
    have A19 := Aside0.mk A190
    clear A190
    replace H := Option.bind_eq_some_iff.mp H
    obtain ⟨⟨t620, t621, t624⟩, A200, H⟩ := H
    try dsimp only at H
    have A20 := Aside0.mk A200
    clear A200
    simp only [Option.some.injEq, Prod.mk.injEq] at H
    obtain ⟨rfl, rfl, rfl⟩ := H
    go_enter Tryd.func23, Tryd.ntmps23
    go_wp2_with (first | ((with_reducible refine gate_dst (N := 4) rfl ?_); refine box_event ?hg (N := 4) ?hd (cs := #[.bool false, .slice none 0 0, .slice none 0 0]) (t := 25) ?hr ?_; (case hd => rfl); (case hg => rfl); (case hr => first | (go_simp; done) | (go_simp; (with_reducible rfl)) | (go_simp; rfl) | (go_simp; simp only [hu, Int.emod_sub_emod])); intro gb600 hg w21 hbox hb; have n0_ := Aside0.mk (below_step (by repeat (first | with_reducible exact HB.out | apply ba | apply bn | apply b1)) hb); have n1_ := Aside0.mk (hbox); have n2_ := Aside0.mk ((by rw [hg]; exact (below_size (by repeat (first | with_reducible exact HB.out | apply ba | apply bn | apply b1))) : w.heap.size ≤ gb600)); have n3_ := Aside0.mk ((by rw [hg]; exact (below_size (by repeat (first | with_reducible exact HB.out | apply ba | apply bn | apply b1))) : w.heap.size ≤ gb600)); clear HB; have HB := n0_; have BK600 := n1_; have GW600 := n2_; have GE600 := n3_; clear n0_ n1_ n2_ n3_; clear hb hbox hg) | ((with_reducible refine gate_callee (f := 49) rfl ?_); refine goesL_ (some 20) rfl rfl Tryd.func49 (by kernel_rfl) rfl #[.int .i64 a0] rfl (by (try simp only [List.map_toArray, List.map_cons, List.map_nil]); first | done | rfl) ?_; (with_reducible refine (penumbraref03_abs.calls k a0 t614 _ A18.out).mono ?_); rintro e w22 ⟨v615, rfl, ho0, hb⟩; refine ⟨_, rfl, ?_⟩; have n0_ := Aside0.mk (Kd.R_lower ho0 (below_size (by repeat (first | with_reducible exact HB.out | apply ba | apply bn | apply b1 | refine below_set ?_ GE600.out)))); have n1_ := Aside0.mk (blk_below (g := gb600) (o := .cells #[.bool false, .slice none 0 0, .slice none 0 0] 25 (0, 0)) (by (with_reducible repeat (first | refine blk_drewN ?_ _ | refine blk_drew ?_ | refine blk_alloc ?_ _)); exact BK600.out) hb); have n2_ := Aside0.mk (below_step (by repeat (first | with_reducible exact HB.out | apply ba | apply bn | apply b1 | refine below_set ?_ GE600.out)) hb); clear BK600; clear HB; have HO616 := n0_; have BK600 := n1_; have HB := n2_; clear n0_ n1_ n2_) | ((with_reducible refine gate_callee (f := 49) rfl ?_); refine goesL_ (some 22) rfl rfl Tryd.func49 (by kernel_rfl) rfl #[.int .i64 a1] rfl (by (try simp only [List.map_toArray, List.map_cons, List.map_nil]); first | done | rfl) ?_; (with_reducible refine (penumbraref03_abs.calls k a1 t617 _ A19.out).mono ?_); rintro e w23 ⟨v618, rfl, ho0, hb⟩; refine ⟨_, rfl, ?_⟩; have n0_ := Aside0.mk (Kd.R_elder' (by (with_reducible repeat (first | apply Ra | apply Rn | apply Rd)); exact HO616.out) (Kd.R_base ho0) hb); have n1_ := Aside0.mk (Kd.R_lower (Kd.R_new' ho0 (Kd.R_lt (by (with_reducible repeat (first | apply Ra | apply Rn | apply Rd)); exact HO616.out))) (below_size (by repeat (first | with_reducible exact HB.out | apply ba | apply bn | apply b1 | refine below_set ?_ GE600.out)))); have n2_ := Aside0.mk (blk_below (g := gb600) (o := .cells #[.bool false, .slice none 0 0, .slice none 0 0] 25 (0, 0)) (by (with_reducible repeat (first | refine blk_drewN ?_ _ | refine blk_drew ?_ | refine blk_alloc ?_ _)); exact BK600.out) hb); have n3_ := Aside0.mk (below_step (by repeat (first | with_reducible exact HB.out | apply ba | apply bn | apply b1 | refine below_set ?_ GE600.out)) hb); clear HO616; clear BK600; clear HB; have HO616 := n0_; have HO619 := n1_; have BK600 := n2_; have HB := n3_; clear n0_ n1_ n2_ n3_; obtain ⟨Ao24, co24, eo24⟩ := Kd.R_slice HO619.out; subst eo24; obtain ⟨Ao25, co25, eo25⟩ := Kd.R_slice HO616.out; subst eo25) | ((with_reducible refine gate_callee (f := 34) rfl ?_); refine goesL_ (some 24) rfl rfl Tryd.func34 (by kernel_rfl) rfl #[.agg #[.bool (decide (a1 < 0)), .slice Ao25 t614.length co25, .slice Ao24 t617.length co24]] rfl (by (try simp only [List.map_toArray, List.map_cons, List.map_nil]); first | done | rfl) ?_; (with_reducible refine (penumbraref03_Read.calls k (decide (a1 < 0)) _ _ t614 _ _ t617 t620 t621 t624 _ ?side1 ?side2 ?side3 ?side4 A20.out).mono ?_); (case side1 => repeat (first | exact (Kd.R_reads' HO616.out).2.2 | (with_reducible refine Kd.C_alloc ?_ _) | (with_reducible refine Kd.C_drewN ?_ _) | (with_reducible refine Kd.C_drew ?_))); (case side2 => exact (Kd.R_reads' HO616.out).2.1); (case side3 => repeat (first | exact (Kd.R_reads' HO619.out).2.2 | (with_reducible refine Kd.C_alloc ?_ _) | (with_reducible refine Kd.C_drewN ?_ _) | (with_reducible refine Kd.C_drew ?_))); (case side4 => exact (Kd.R_reads' HO619.out).2.1); rintro e w26 ⟨v622, v625, rfl, ho0, ho1, hb⟩; refine ⟨_, rfl, ?_⟩; have n0_ := Aside0.mk (Kd.R_mono (Kd.R_told (Kd.R_told (Kd.R_old (by (with_reducible repeat (first | apply Ra | apply Rn | apply Rd)); exact HO616.out) hb) (Kd.R_base ho0)) (Kd.R_base ho1)) (fun _ h_ => h_.1)); have n1_ := Aside0.mk (Kd.R_mono (Kd.R_told (Kd.R_told (Kd.R_old (by (with_reducible repeat (first | apply Ra | apply Rn | apply Rd)); exact HO619.out) hb) (Kd.R_base ho0)) (Kd.R_base ho1)) (fun _ h_ => h_.1)); have n2_ := Aside0.mk (Kd.R_lower (Kd.R_new' (Kd.R_new' ho0 (Kd.R_lt (by (with_reducible repeat (first | apply Ra | apply Rn | apply Rd)); exact HO616.out))) (Kd.R_lt (by (with_reducible repeat (first | apply Ra | apply Rn | apply Rd)); exact HO619.out))) (below_size (by repeat (first | with_reducible exact HB.out | apply ba | apply bn | apply b1 | refine below_set ?_ GE600.out)))); have n3_ := Aside0.mk (Kd.R_lower (Kd.R_new' (Kd.R_new' ho1 (Kd.R_lt (by (with_reducible repeat (first | apply Ra | apply Rn | apply Rd)); exact HO616.out))) (Kd.R_lt (by (with_reducible repeat (first | apply Ra | apply Rn | apply Rd)); exact HO619.out))) (below_size (by repeat (first | with_reducible exact HB.out | apply ba | apply bn | apply b1 | refine below_set ?_ GE600.out)))); have n4_ := Aside0.mk (blk_below (g := gb600) (o := .cells #[.bool false, .slice none 0 0, .slice none 0 0] 25 (0, 0)) (by (with_reducible repeat (first | refine blk_drewN ?_ _ | refine blk_drew ?_ | refine blk_alloc ?_ _)); exact BK600.out) hb); have n5_ := Aside0.mk (below_step (by repeat (first | with_reducible exact HB.out | apply ba | apply bn | apply b1 | refine below_set ?_ GE600.out)) hb); clear HO616; clear HO619; clear BK600; clear HB; have HO616 := n0_; have HO619 := n1_; have HO623 := n2_; have HO626 := n3_; have BK600 := n4_; have HB := n5_; clear n0_ n1_ n2_ n3_ n4_ n5_; have hcz27_0 : w26.cell? ⟨gb600, 0, none⟩ = some (.bool false) := (blk_cell BK600.out 0).trans rfl; have hcz27_1 : w26.cell? ⟨gb600, 1, none⟩ = some (.slice none 0 0) := (blk_cell BK600.out 1).trans rfl; have hcz27_2 : w26.cell? ⟨gb600, 2, none⟩ = some (.slice none 0 0) := (blk_cell BK600.out 2).trans rfl; have hfz27_0 := blk_frozen BK600.out 0; have hfz27_1 := blk_frozen BK600.out 1; have hfz27_2 := blk_frozen BK600.out 2; obtain ⟨Ao28, co28, eo28⟩ := Kd.R_slice HO623.out; subst eo28; obtain ⟨Ao29, co29, eo29⟩ := Kd.R_slice HO626.out; subst eo29))
    refine bodyPost_ret (results_cell_row rfl _ _ gb600 25 #[.bool t620, .slice Ao28 t621.length co28, .slice Ao29 t624.length co29] (0, 0) _ rfl (by (with_reducible repeat (first | refine blk_drewN ?_ _ | refine blk_drew ?_ | refine blk_alloc ?_ _)); refine blk_put (cs := #[.bool t620, .slice Ao28 t621.length co28, .slice none 0 0]) ?_ 2 _ rfl; (with_reducible repeat (first | refine blk_drewN ?_ _ | refine blk_drew ?_ | refine blk_alloc ?_ _)); refine blk_put (cs := #[.bool t620, .slice none 0 0, .slice none 0 0]) ?_ 1 _ rfl; (with_reducible repeat (first | refine blk_drewN ?_ _ | refine blk_drew ?_ | refine blk_alloc ?_ _)); refine blk_put (cs := #[.bool false, .slice none 0 0, .slice none 0 0]) ?_ 0 _ rfl; (with_reducible repeat (first | refine blk_drewN ?_ _ | refine blk_drew ?_ | refine blk_alloc ?_ _)); exact BK600.out) Tryd.underlying25 rfl (by kernel_rfl)) rfl ?_
    exact ⟨_, _, by first | rfl | (simp [errW_none, errW_some] <;> rfl) | (simp [*, errW_none, errW_some] <;> rfl), by (with_reducible repeat (first | apply Ra | apply Rn | apply Rd)); exact Kd.R_mono (Kd.R_far (p := ⟨gb600, 2, none⟩) (Kd.R_far (p := ⟨gb600, 1, none⟩) (Kd.R_far (p := ⟨gb600, 0, none⟩) (Kd.R_types HO623.out BK600.out (by decide)) (fun _ hk => hk.2) (.bool t620)) (fun _ hk => hk.2) (.slice Ao28 t621.length co28)) (fun _ hk => hk.2) (.slice Ao29 t624.length co29)) (fun _ hk => hk.1.1.1), by (with_reducible repeat (first | apply Ra | apply Rn | apply Rd)); exact Kd.R_mono (Kd.R_far (p := ⟨gb600, 2, none⟩) (Kd.R_far (p := ⟨gb600, 1, none⟩) (Kd.R_far (p := ⟨gb600, 0, none⟩) (Kd.R_types HO626.out BK600.out (by decide)) (fun _ hk => hk.2) (.bool t620)) (fun _ hk => hk.2) (.slice Ao28 t621.length co28)) (fun _ hk => hk.2) (.slice Ao29 t624.length co29)) (fun _ hk => hk.1.1.1), by repeat (first | with_reducible exact HB.out | apply ba | apply bn | apply b1 | refine below_set ?_ GE600.out)⟩
   ·rw [if_neg c17] at H
    have c17b0 : decide (0 ≤ a0) = false := decide_eq_false c17
    clear c17
    replace H := Option.bind_eq_some_iff.mp H
    obtain ⟨t627, A300, H⟩ := H
    try dsimp only at H
    have A30 := Aside0.mk A300
    clear A300
    replace H := Option.bind_eq_some_iff.mp H
    obtain ⟨t630, A310, H⟩ := H
    try dsimp only at H
    have A31 := Aside0.mk A310
    clear A310
    replace H := Option.bind_eq_some_iff.mp H
    obtain ⟨⟨t633, t634, t637⟩, A320, H⟩ := H
    try dsimp only at H
    have A32 := Aside0.mk A320
    clear A320
    simp only [Option.some.injEq, Prod.mk.injEq] at H
    obtain ⟨rfl, rfl, rfl⟩ := H
    go_enter Tryd.func23, Tryd.ntmps23
    go_wp2_with (first | ((with_reducible refine gate_dst (N := 4) rfl ?_); refine box_event ?hg (N := 4) ?hd (cs := #[.bool false, .slice none 0 0, .slice none 0 0]) (t := 25) ?hr ?_; (case hd => rfl); (case hg => rfl); (case hr => first | (go_simp; done) | (go_simp; (with_reducible rfl)) | (go_simp; rfl) | (go_simp; simp only [hu, Int.emod_sub_emod])); intro gb600 hg w33 hbox hb; have n0_ := Aside0.mk (below_step (by repeat (first | with_reducible exact HB.out | apply ba | apply bn | apply b1)) hb); have n1_ := Aside0.mk (hbox); have n2_ := Aside0.mk ((by rw [hg]; exact (below_size (by repeat (first | with_reducible exact HB.out | apply ba | apply bn | apply b1))) : w.heap.size ≤ gb600)); have n3_ := Aside0.mk ((by rw [hg]; exact (below_size (by repeat (first | with_reducible exact HB.out | apply ba | apply bn | apply b1))) : w.heap.size ≤ gb600)); clear HB; have HB := n0_; have BK600 := n1_; have GW600 := n2_; have GE600 := n3_; clear n0_ n1_ n2_ n3_; clear hb hbox hg) | ((with_reducible refine gate_callee (f := 49) rfl ?_); refine goesL_ (some 20) rfl rfl Tryd.func49 (by kernel_rfl) rfl #[.int .i64 a0] rfl (by (try simp only [List.map_toArray, List.map_cons, List.map_nil]); first | done | rfl) ?_; (with_reducible refine (penumbraref03_abs.calls k a0 t627 _ A30.out).mono ?_); rintro e w34 ⟨v628, rfl, ho0, hb⟩; refine ⟨_, rfl, ?_⟩; have n0_ := Aside0.mk (Kd.R_lower ho0 (below_size (by repeat (first | with_reducible exact HB.out | apply ba | apply bn | apply b1 | refine below_set ?_ GE600.out)))); have n1_ := Aside0.mk (blk_below (g := gb600) (o := .cells #[.bool false, .slice none 0 0, .slice none 0 0] 25 (0, 0)) (by (with_reducible repeat (first | refine blk_drewN ?_ _ | refine blk_drew ?_ | refine blk_alloc ?_ _)); exact BK600.out) hb); have n2_ := Aside0.mk (below_step (by repeat (first | with_reducible exact HB.out | apply ba | apply bn | apply b1 | refine below_set ?_ GE600.out)) hb); clear BK600; clear HB; have HO629 := n0_; have BK600 := n1_; have HB := n2_; clear n0_ n1_ n2_) | ((with_reducible refine gate_callee (f := 49) rfl ?_); refine goesL_ (some 22) rfl rfl Tryd.func49 (by kernel_rfl) rfl #[.int .i64 a1] rfl (by (try simp only [List.map_toArray, List.map_cons, List.map_nil]); first | done | rfl) ?_; (with_reducible refine (penumbraref03_abs.calls k a1 t630 _ A31.out).mono ?_); rintro e w35 ⟨v631, rfl, ho0, hb⟩; refine ⟨_, rfl, ?_⟩; have n0_ := Aside0.mk (Kd.R_elder' (by (with_reducible repeat (first | apply Ra | apply Rn | apply Rd)); exact HO629.out) (Kd.R_base ho0) hb); have n1_ := Aside0.mk (Kd.R_lower (Kd.R_new' ho0 (Kd.R_lt (by (with_reducible repeat (first | apply Ra | apply Rn | apply Rd)); exact HO629.out))) (below_size (by repeat (first | with_reducible exact HB.out | apply ba | apply bn | apply b1 | refine below_set ?_ GE600.out)))); have n2_ := Aside0.mk (blk_below (g := gb600) (o := .cells #[.bool false, .slice none 0 0, .slice none 0 0] 25 (0, 0)) (by (with_reducible repeat (first | refine blk_drewN ?_ _ | refine blk_drew ?_ | refine blk_alloc ?_ _)); exact BK600.out) hb); have n3_ := Aside0.mk (below_step (by repeat (first | with_reducible exact HB.out | apply ba | apply bn | apply b1 | refine below_set ?_ GE600.out)) hb); clear HO629; clear BK600; clear HB; have HO629 := n0_; have HO632 := n1_; have BK600 := n2_; have HB := n3_; clear n0_ n1_ n2_ n3_; obtain ⟨Ao36, co36, eo36⟩ := Kd.R_slice HO632.out; subst eo36; obtain ⟨Ao37, co37, eo37⟩ := Kd.R_slice HO629.out; subst eo37) | ((with_reducible refine gate_callee (f := 34) rfl ?_); refine goesL_ (some 24) rfl rfl Tryd.func34 (by kernel_rfl) rfl #[.agg #[.bool false, .slice Ao37 t627.length co37, .slice Ao36 t630.length co36]] rfl (by (try simp only [List.map_toArray, List.map_cons, List.map_nil]); first | done | rfl) ?_; (with_reducible refine (penumbraref03_Read.calls k false _ _ t627 _ _ t630 t633 t634 t637 _ ?side1 ?side2 ?side3 ?side4 A32.out).mono ?_); (case side1 => repeat (first | exact (Kd.R_reads' HO629.out).2.2 | (with_reducible refine Kd.C_alloc ?_ _) | (with_reducible refine Kd.C_drewN ?_ _) | (with_reducible refine Kd.C_drew ?_))); (case side2 => exact (Kd.R_reads' HO629.out).2.1); (case side3 => repeat (first | exact (Kd.R_reads' HO632.out).2.2 | (with_reducible refine Kd.C_alloc ?_ _) | (with_reducible refine Kd.C_drewN ?_ _) | (with_reducible refine Kd.C_drew ?_))); (case side4 => exact (Kd.R_reads' HO632.out).2.1); rintro e w38 ⟨v635, v638, rfl, ho0, ho1, hb⟩; refine ⟨_, rfl, ?_⟩; have n0_ := Aside0.mk (Kd.R_mono (Kd.R_told (Kd.R_told (Kd.R_old (by (with_reducible repeat (first | apply Ra | apply Rn | apply Rd)); exact HO629.out) hb) (Kd.R_base ho0)) (Kd.R_base ho1)) (fun _ h_ => h_.1)); have n1_ := Aside0.mk (Kd.R_mono (Kd.R_told (Kd.R_told (Kd.R_old (by (with_reducible repeat (first | apply Ra | apply Rn | apply Rd)); exact HO632.out) hb) (Kd.R_base ho0)) (Kd.R_base ho1)) (fun _ h_ => h_.1)); have n2_ := Aside0.mk (Kd.R_lower (Kd.R_new' (Kd.R_new' ho0 (Kd.R_lt (by (with_reducible repeat (first | apply Ra | apply Rn | apply Rd)); exact HO629.out))) (Kd.R_lt (by (with_reducible repeat (first | apply Ra | apply Rn | apply Rd)); exact HO632.out))) (below_size (by repeat (first | with_reducible exact HB.out | apply ba | apply bn | apply b1 | refine below_set ?_ GE600.out)))); have n3_ := Aside0.mk (Kd.R_lower (Kd.R_new' (Kd.R_new' ho1 (Kd.R_lt (by (with_reducible repeat (first | apply Ra | apply Rn | apply Rd)); exact HO629.out))) (Kd.R_lt (by (with_reducible repeat (first | apply Ra | apply Rn | apply Rd)); exact HO632.out))) (below_size (by repeat (first | with_reducible exact HB.out | apply ba | apply bn | apply b1 | refine below_set ?_ GE600.out)))); have n4_ := Aside0.mk (blk_below (g := gb600) (o := .cells #[.bool false, .slice none 0 0, .slice none 0 0] 25 (0, 0)) (by (with_reducible repeat (first | refine blk_drewN ?_ _ | refine blk_drew ?_ | refine blk_alloc ?_ _)); exact BK600.out) hb); have n5_ := Aside0.mk (below_step (by repeat (first | with_reducible exact HB.out | apply ba | apply bn | apply b1 | refine below_set ?_ GE600.out)) hb); clear HO629; clear HO632; clear BK600; clear HB; have HO629 := n0_; have HO632 := n1_; have HO636 := n2_; have HO639 := n3_; have BK600 := n4_; have HB := n5_; clear n0_ n1_ n2_ n3_ n4_ n5_; have hcz39_0 : w38.cell? ⟨gb600, 0, none⟩ = some (.bool false) := (blk_cell BK600.out 0).trans rfl; have hcz39_1 : w38.cell? ⟨gb600, 1, none⟩ = some (.slice none 0 0) := (blk_cell BK600.out 1).trans rfl; have hcz39_2 : w38.cell? ⟨gb600, 2, none⟩ = some (.slice none 0 0) := (blk_cell BK600.out 2).trans rfl; have hfz39_0 := blk_frozen BK600.out 0; have hfz39_1 := blk_frozen BK600.out 1; have hfz39_2 := blk_frozen BK600.out 2; obtain ⟨Ao40, co40, eo40⟩ := Kd.R_slice HO636.out; subst eo40; obtain ⟨Ao41, co41, eo41⟩ := Kd.R_slice HO639.out; subst eo41))
    refine bodyPost_ret (results_cell_row rfl _ _ gb600 25 #[.bool t633, .slice Ao40 t634.length co40, .slice Ao41 t637.length co41] (0, 0) _ rfl (by (with_reducible repeat (first | refine blk_drewN ?_ _ | refine blk_drew ?_ | refine blk_alloc ?_ _)); refine blk_put (cs := #[.bool t633, .slice Ao40 t634.length co40, .slice none 0 0]) ?_ 2 _ rfl; (with_reducible repeat (first | refine blk_drewN ?_ _ | refine blk_drew ?_ | refine blk_alloc ?_ _)); refine blk_put (cs := #[.bool t633, .slice none 0 0, .slice none 0 0]) ?_ 1 _ rfl; (with_reducible repeat (first | refine blk_drewN ?_ _ | refine blk_drew ?_ | refine blk_alloc ?_ _)); refine blk_put (cs := #[.bool false, .slice none 0 0, .slice none 0 0]) ?_ 0 _ rfl; (with_reducible repeat (first | refine blk_drewN ?_ _ | refine blk_drew ?_ | refine blk_alloc ?_ _)); exact BK600.out) Tryd.underlying25 rfl (by kernel_rfl)) rfl ?_
    exact ⟨_, _, by first | rfl | (simp [errW_none, errW_some] <;> rfl) | (simp [*, errW_none, errW_some] <;> rfl), by (with_reducible repeat (first | apply Ra | apply Rn | apply Rd)); exact Kd.R_mono (Kd.R_far (p := ⟨gb600, 2, none⟩) (Kd.R_far (p := ⟨gb600, 1, none⟩) (Kd.R_far (p := ⟨gb600, 0, none⟩) (Kd.R_types HO636.out BK600.out (by decide)) (fun _ hk => hk.2) (.bool t633)) (fun _ hk => hk.2) (.slice Ao40 t634.length co40)) (fun _ hk => hk.2) (.slice Ao41 t637.length co41)) (fun _ hk => hk.1.1.1), by (with_reducible repeat (first | apply Ra | apply Rn | apply Rd)); exact Kd.R_mono (Kd.R_far (p := ⟨gb600, 2, none⟩) (Kd.R_far (p := ⟨gb600, 1, none⟩) (Kd.R_far (p := ⟨gb600, 0, none⟩) (Kd.R_types HO639.out BK600.out (by decide)) (fun _ hk => hk.2) (.bool t633)) (fun _ hk => hk.2) (.slice Ao40 t634.length co40)) (fun _ hk => hk.2) (.slice Ao41 t637.length co41)) (fun _ hk => hk.1.1.1), by repeat (first | with_reducible exact HB.out | apply ba | apply bn | apply b1 | refine below_set ?_ GE600.out)⟩
 ·rw [if_neg c3] at H
  have c3b0 : decide (a0 < 0) = false := decide_eq_false c3
  clear c3
  by_cases c42 : a0 ≥ 0
  ·rw [if_pos c42] at H
   have c42b0 : decide (0 ≤ a0) = true := decide_eq_true c42
   clear c42
   replace H := Option.bind_eq_some_iff.mp H
   obtain ⟨t640, A430, H⟩ := H
   try dsimp only at H
   have A43 := Aside0.mk A430
   clear A430
   replace H := Option.bind_eq_some_iff.mp H
   obtain ⟨t643, A440, H⟩ := H
   try dsimp only at H
   have A44 := Aside0.mk A440
   clear A440
   replace H := Option.bind_eq_some_iff.mp H
   obtain ⟨⟨t646, t647, t650⟩, A450, H⟩ := H
   try dsimp only at H
   have A45 := Aside0.mk A450
   clear A450
   simp only [Option.some.injEq, Prod.mk.injEq] at H
   obtain ⟨rfl, rfl, rfl⟩ := H
   go_enter Tryd.func23, Tryd.ntmps23
   go_wp2_with (first | ((with_reducible refine gate_dst (N := 4) rfl ?_); refine box_event ?hg (N := 4) ?hd (cs := #[.bool false, .slice none 0 0, .slice none 0 0]) (t := 25) ?hr ?_; (case hd => rfl); (case hg => rfl); (case hr => first | (go_simp; done) | (go_simp; (with_reducible rfl)) | (go_simp; rfl) | (go_simp; simp only [hu, Int.emod_sub_emod])); intro gb600 hg w46 hbox hb; have n0_ := Aside0.mk (below_step (by repeat (first | with_reducible exact HB.out | apply ba | apply bn | apply b1)) hb); have n1_ := Aside0.mk (hbox); have n2_ := Aside0.mk ((by rw [hg]; exact (below_size (by repeat (first | with_reducible exact HB.out | apply ba | apply bn | apply b1))) : w.heap.size ≤ gb600)); have n3_ := Aside0.mk ((by rw [hg]; exact (below_size (by repeat (first | with_reducible exact HB.out | apply ba | apply bn | apply b1))) : w.heap.size ≤ gb600)); clear HB; have HB := n0_; have BK600 := n1_; have GW600 := n2_; have GE600 := n3_; clear n0_ n1_ n2_ n3_; clear hb hbox hg) | ((with_reducible refine gate_callee (f := 49) rfl ?_); refine goesL_ (some 20) rfl rfl Tryd.func49 (by kernel_rfl) rfl #[.int .i64 a0] rfl (by (try simp only [List.map_toArray, List.map_cons, List.map_nil]); first | done | rfl) ?_; (with_reducible refine (penumbraref03_abs.calls k a0 t640 _ A43.out).mono ?_); rintro e w47 ⟨v641, rfl, ho0, hb⟩; refine ⟨_, rfl, ?_⟩; have n0_ := Aside0.mk (Kd.R_lower ho0 (below_size (by repeat (first | with_reducible exact HB.out | apply ba | apply bn | apply b1 | refine below_set ?_ GE600.out)))); have n1_ := Aside0.mk (blk_below (g := gb600) (o := .cells #[.bool false, .slice none 0 0, .slice none 0 0] 25 (0, 0)) (by (with_reducible repeat (first | refine blk_drewN ?_ _ | refine blk_drew ?_ | refine blk_alloc ?_ _)); exact BK600.out) hb); have n2_ := Aside0.mk (below_step (by repeat (first | with_reducible exact HB.out | apply ba | apply bn | apply b1 | refine below_set ?_ GE600.out)) hb); clear BK600; clear HB; have HO642 := n0_; have BK600 := n1_; have HB := n2_; clear n0_ n1_ n2_) | ((with_reducible refine gate_callee (f := 49) rfl ?_); refine goesL_ (some 22) rfl rfl Tryd.func49 (by kernel_rfl) rfl #[.int .i64 a1] rfl (by (try simp only [List.map_toArray, List.map_cons, List.map_nil]); first | done | rfl) ?_; (with_reducible refine (penumbraref03_abs.calls k a1 t643 _ A44.out).mono ?_); rintro e w48 ⟨v644, rfl, ho0, hb⟩; refine ⟨_, rfl, ?_⟩; have n0_ := Aside0.mk (Kd.R_elder' (by (with_reducible repeat (first | apply Ra | apply Rn | apply Rd)); exact HO642.out) (Kd.R_base ho0) hb); have n1_ := Aside0.mk (Kd.R_lower (Kd.R_new' ho0 (Kd.R_lt (by (with_reducible repeat (first | apply Ra | apply Rn | apply Rd)); exact HO642.out))) (below_size (by repeat (first | with_reducible exact HB.out | apply ba | apply bn | apply b1 | refine below_set ?_ GE600.out)))); have n2_ := Aside0.mk (blk_below (g := gb600) (o := .cells #[.bool false, .slice none 0 0, .slice none 0 0] 25 (0, 0)) (by (with_reducible repeat (first | refine blk_drewN ?_ _ | refine blk_drew ?_ | refine blk_alloc ?_ _)); exact BK600.out) hb); have n3_ := Aside0.mk (below_step (by repeat (first | with_reducible exact HB.out | apply ba | apply bn | apply b1 | refine below_set ?_ GE600.out)) hb); clear HO642; clear BK600; clear HB; have HO642 := n0_; have HO645 := n1_; have BK600 := n2_; have HB := n3_; clear n0_ n1_ n2_ n3_; obtain ⟨Ao49, co49, eo49⟩ := Kd.R_slice HO645.out; subst eo49; obtain ⟨Ao50, co50, eo50⟩ := Kd.R_slice HO642.out; subst eo50) | ((with_reducible refine gate_callee (f := 34) rfl ?_); refine goesL_ (some 24) rfl rfl Tryd.func34 (by kernel_rfl) rfl #[.agg #[.bool (decide (a1 < 0)), .slice Ao50 t640.length co50, .slice Ao49 t643.length co49]] rfl (by (try simp only [List.map_toArray, List.map_cons, List.map_nil]); first | done | rfl) ?_; (with_reducible refine (penumbraref03_Read.calls k (decide (a1 < 0)) _ _ t640 _ _ t643 t646 t647 t650 _ ?side1 ?side2 ?side3 ?side4 A45.out).mono ?_); (case side1 => repeat (first | exact (Kd.R_reads' HO642.out).2.2 | (with_reducible refine Kd.C_alloc ?_ _) | (with_reducible refine Kd.C_drewN ?_ _) | (with_reducible refine Kd.C_drew ?_))); (case side2 => exact (Kd.R_reads' HO642.out).2.1); (case side3 => repeat (first | exact (Kd.R_reads' HO645.out).2.2 | (with_reducible refine Kd.C_alloc ?_ _) | (with_reducible refine Kd.C_drewN ?_ _) | (with_reducible refine Kd.C_drew ?_))); (case side4 => exact (Kd.R_reads' HO645.out).2.1); rintro e w51 ⟨v648, v651, rfl, ho0, ho1, hb⟩; refine ⟨_, rfl, ?_⟩; have n0_ := Aside0.mk (Kd.R_mono (Kd.R_told (Kd.R_told (Kd.R_old (by (with_reducible repeat (first | apply Ra | apply Rn | apply Rd)); exact HO642.out) hb) (Kd.R_base ho0)) (Kd.R_base ho1)) (fun _ h_ => h_.1)); have n1_ := Aside0.mk (Kd.R_mono (Kd.R_told (Kd.R_told (Kd.R_old (by (with_reducible repeat (first | apply Ra | apply Rn | apply Rd)); exact HO645.out) hb) (Kd.R_base ho0)) (Kd.R_base ho1)) (fun _ h_ => h_.1)); have n2_ := Aside0.mk (Kd.R_lower (Kd.R_new' (Kd.R_new' ho0 (Kd.R_lt (by (with_reducible repeat (first | apply Ra | apply Rn | apply Rd)); exact HO642.out))) (Kd.R_lt (by (with_reducible repeat (first | apply Ra | apply Rn | apply Rd)); exact HO645.out))) (below_size (by repeat (first | with_reducible exact HB.out | apply ba | apply bn | apply b1 | refine below_set ?_ GE600.out)))); have n3_ := Aside0.mk (Kd.R_lower (Kd.R_new' (Kd.R_new' ho1 (Kd.R_lt (by (with_reducible repeat (first | apply Ra | apply Rn | apply Rd)); exact HO642.out))) (Kd.R_lt (by (with_reducible repeat (first | apply Ra | apply Rn | apply Rd)); exact HO645.out))) (below_size (by repeat (first | with_reducible exact HB.out | apply ba | apply bn | apply b1 | refine below_set ?_ GE600.out)))); have n4_ := Aside0.mk (blk_below (g := gb600) (o := .cells #[.bool false, .slice none 0 0, .slice none 0 0] 25 (0, 0)) (by (with_reducible repeat (first | refine blk_drewN ?_ _ | refine blk_drew ?_ | refine blk_alloc ?_ _)); exact BK600.out) hb); have n5_ := Aside0.mk (below_step (by repeat (first | with_reducible exact HB.out | apply ba | apply bn | apply b1 | refine below_set ?_ GE600.out)) hb); clear HO642; clear HO645; clear BK600; clear HB; have HO642 := n0_; have HO645 := n1_; have HO649 := n2_; have HO652 := n3_; have BK600 := n4_; have HB := n5_; clear n0_ n1_ n2_ n3_ n4_ n5_; have hcz52_0 : w51.cell? ⟨gb600, 0, none⟩ = some (.bool false) := (blk_cell BK600.out 0).trans rfl; have hcz52_1 : w51.cell? ⟨gb600, 1, none⟩ = some (.slice none 0 0) := (blk_cell BK600.out 1).trans rfl; have hcz52_2 : w51.cell? ⟨gb600, 2, none⟩ = some (.slice none 0 0) := (blk_cell BK600.out 2).trans rfl; have hfz52_0 := blk_frozen BK600.out 0; have hfz52_1 := blk_frozen BK600.out 1; have hfz52_2 := blk_frozen BK600.out 2; obtain ⟨Ao53, co53, eo53⟩ := Kd.R_slice HO649.out; subst eo53; obtain ⟨Ao54, co54, eo54⟩ := Kd.R_slice HO652.out; subst eo54))
   refine bodyPost_ret (results_cell_row rfl _ _ gb600 25 #[.bool t646, .slice Ao53 t647.length co53, .slice Ao54 t650.length co54] (0, 0) _ rfl (by (with_reducible repeat (first | refine blk_drewN ?_ _ | refine blk_drew ?_ | refine blk_alloc ?_ _)); refine blk_put (cs := #[.bool t646, .slice Ao53 t647.length co53, .slice none 0 0]) ?_ 2 _ rfl; (with_reducible repeat (first | refine blk_drewN ?_ _ | refine blk_drew ?_ | refine blk_alloc ?_ _)); refine blk_put (cs := #[.bool t646, .slice none 0 0, .slice none 0 0]) ?_ 1 _ rfl; (with_reducible repeat (first | refine blk_drewN ?_ _ | refine blk_drew ?_ | refine blk_alloc ?_ _)); refine blk_put (cs := #[.bool false, .slice none 0 0, .slice none 0 0]) ?_ 0 _ rfl; (with_reducible repeat (first | refine blk_drewN ?_ _ | refine blk_drew ?_ | refine blk_alloc ?_ _)); exact BK600.out) Tryd.underlying25 rfl (by kernel_rfl)) rfl ?_
   exact ⟨_, _, by first | rfl | (simp [errW_none, errW_some] <;> rfl) | (simp [*, errW_none, errW_some] <;> rfl), by (with_reducible repeat (first | apply Ra | apply Rn | apply Rd)); exact Kd.R_mono (Kd.R_far (p := ⟨gb600, 2, none⟩) (Kd.R_far (p := ⟨gb600, 1, none⟩) (Kd.R_far (p := ⟨gb600, 0, none⟩) (Kd.R_types HO649.out BK600.out (by decide)) (fun _ hk => hk.2) (.bool t646)) (fun _ hk => hk.2) (.slice Ao53 t647.length co53)) (fun _ hk => hk.2) (.slice Ao54 t650.length co54)) (fun _ hk => hk.1.1.1), by (with_reducible repeat (first | apply Ra | apply Rn | apply Rd)); exact Kd.R_mono (Kd.R_far (p := ⟨gb600, 2, none⟩) (Kd.R_far (p := ⟨gb600, 1, none⟩) (Kd.R_far (p := ⟨gb600, 0, none⟩) (Kd.R_types HO652.out BK600.out (by decide)) (fun _ hk => hk.2) (.bool t646)) (fun _ hk => hk.2) (.slice Ao53 t647.length co53)) (fun _ hk => hk.2) (.slice Ao54 t650.length co54)) (fun _ hk => hk.1.1.1), by repeat (first | with_reducible exact HB.out | apply ba | apply bn | apply b1 | refine below_set ?_ GE600.out)⟩
  ·rw [if_neg c42] at H
   have c42b0 : decide (0 ≤ a0) = false := decide_eq_false c42
   clear c42
   replace H := Option.bind_eq_some_iff.mp H
   obtain ⟨t653, A550, H⟩ := H
   try dsimp only at H
   have A55 := Aside0.mk A550
   clear A550
   replace H := Option.bind_eq_some_iff.mp H
   obtain ⟨t656, A560, H⟩ := H
   try dsimp only at H
   have A56 := Aside0.mk A560
   clear A560
   replace H := Option.bind_eq_some_iff.mp H
   obtain ⟨⟨t659, t660, t663⟩, A570, H⟩ := H
   try dsimp only at H
   have A57 := Aside0.mk A570
   clear A570
   simp only [Option.some.injEq, Prod.mk.injEq] at H
   obtain ⟨rfl, rfl, rfl⟩ := H
   go_enter Tryd.func23, Tryd.ntmps23
   go_wp2_with (first | ((with_reducible refine gate_dst (N := 4) rfl ?_); refine box_event ?hg (N := 4) ?hd (cs := #[.bool false, .slice none 0 0, .slice none 0 0]) (t := 25) ?hr ?_; (case hd => rfl); (case hg => rfl); (case hr => first | (go_simp; done) | (go_simp; (with_reducible rfl)) | (go_simp; rfl) | (go_simp; simp only [hu, Int.emod_sub_emod])); intro gb600 hg w58 hbox hb; have n0_ := Aside0.mk (below_step (by repeat (first | with_reducible exact HB.out | apply ba | apply bn | apply b1)) hb); have n1_ := Aside0.mk (hbox); have n2_ := Aside0.mk ((by rw [hg]; exact (below_size (by repeat (first | with_reducible exact HB.out | apply ba | apply bn | apply b1))) : w.heap.size ≤ gb600)); have n3_ := Aside0.mk ((by rw [hg]; exact (below_size (by repeat (first | with_reducible exact HB.out | apply ba | apply bn | apply b1))) : w.heap.size ≤ gb600)); clear HB; have HB := n0_; have BK600 := n1_; have GW600 := n2_; have GE600 := n3_; clear n0_ n1_ n2_ n3_; clear hb hbox hg) | ((with_reducible refine gate_callee (f := 49) rfl ?_); refine goesL_ (some 20) rfl rfl Tryd.func49 (by kernel_rfl) rfl #[.int .i64 a0] rfl (by (try simp only [List.map_toArray, List.map_cons, List.map_nil]); first | done | rfl) ?_; (with_reducible refine (penumbraref03_abs.calls k a0 t653 _ A55.out).mono ?_); rintro e w59 ⟨v654, rfl, ho0, hb⟩; refine ⟨_, rfl, ?_⟩; have n0_ := Aside0.mk (Kd.R_lower ho0 (below_size (by repeat (first | with_reducible exact HB.out | apply ba | apply bn | apply b1 | refine below_set ?_ GE600.out)))); have n1_ := Aside0.mk (blk_below (g := gb600) (o := .cells #[.bool false, .slice none 0 0, .slice none 0 0] 25 (0, 0)) (by (with_reducible repeat (first | refine blk_drewN ?_ _ | refine blk_drew ?_ | refine blk_alloc ?_ _)); exact BK600.out) hb); have n2_ := Aside0.mk (below_step (by repeat (first | with_reducible exact HB.out | apply ba | apply bn | apply b1 | refine below_set ?_ GE600.out)) hb); clear BK600; clear HB; have HO655 := n0_; have BK600 := n1_; have HB := n2_; clear n0_ n1_ n2_) | ((with_reducible refine gate_callee (f := 49) rfl ?_); refine goesL_ (some 22) rfl rfl Tryd.func49 (by kernel_rfl) rfl #[.int .i64 a1] rfl (by (try simp only [List.map_toArray, List.map_cons, List.map_nil]); first | done | rfl) ?_; (with_reducible refine (penumbraref03_abs.calls k a1 t656 _ A56.out).mono ?_); rintro e w60 ⟨v657, rfl, ho0, hb⟩; refine ⟨_, rfl, ?_⟩; have n0_ := Aside0.mk (Kd.R_elder' (by (with_reducible repeat (first | apply Ra | apply Rn | apply Rd)); exact HO655.out) (Kd.R_base ho0) hb); have n1_ := Aside0.mk (Kd.R_lower (Kd.R_new' ho0 (Kd.R_lt (by (with_reducible repeat (first | apply Ra | apply Rn | apply Rd)); exact HO655.out))) (below_size (by repeat (first | with_reducible exact HB.out | apply ba | apply bn | apply b1 | refine below_set ?_ GE600.out)))); have n2_ := Aside0.mk (blk_below (g := gb600) (o := .cells #[.bool false, .slice none 0 0, .slice none 0 0] 25 (0, 0)) (by (with_reducible repeat (first | refine blk_drewN ?_ _ | refine blk_drew ?_ | refine blk_alloc ?_ _)); exact BK600.out) hb); have n3_ := Aside0.mk (below_step (by repeat (first | with_reducible exact HB.out | apply ba | apply bn | apply b1 | refine below_set ?_ GE600.out)) hb); clear HO655; clear BK600; clear HB; have HO655 := n0_; have HO658 := n1_; have BK600 := n2_; have HB := n3_; clear n0_ n1_ n2_ n3_; obtain ⟨Ao61, co61, eo61⟩ := Kd.R_slice HO658.out; subst eo61; obtain ⟨Ao62, co62, eo62⟩ := Kd.R_slice HO655.out; subst eo62) | ((with_reducible refine gate_callee (f := 34) rfl ?_); refine goesL_ (some 24) rfl rfl Tryd.func34 (by kernel_rfl) rfl #[.agg #[.bool false, .slice Ao62 t653.length co62, .slice Ao61 t656.length co61]] rfl (by (try simp only [List.map_toArray, List.map_cons, List.map_nil]); first | done | rfl) ?_; (with_reducible refine (penumbraref03_Read.calls k false _ _ t653 _ _ t656 t659 t660 t663 _ ?side1 ?side2 ?side3 ?side4 A57.out).mono ?_); (case side1 => repeat (first | exact (Kd.R_reads' HO655.out).2.2 | (with_reducible refine Kd.C_alloc ?_ _) | (with_reducible refine Kd.C_drewN ?_ _) | (with_reducible refine Kd.C_drew ?_))); (case side2 => exact (Kd.R_reads' HO655.out).2.1); (case side3 => repeat (first | exact (Kd.R_reads' HO658.out).2.2 | (with_reducible refine Kd.C_alloc ?_ _) | (with_reducible refine Kd.C_drewN ?_ _) | (with_reducible refine Kd.C_drew ?_))); (case side4 => exact (Kd.R_reads' HO658.out).2.1); rintro e w63 ⟨v661, v664, rfl, ho0, ho1, hb⟩; refine ⟨_, rfl, ?_⟩; have n0_ := Aside0.mk (Kd.R_mono (Kd.R_told (Kd.R_told (Kd.R_old (by (with_reducible repeat (first | apply Ra | apply Rn | apply Rd)); exact HO655.out) hb) (Kd.R_base ho0)) (Kd.R_base ho1)) (fun _ h_ => h_.1)); have n1_ := Aside0.mk (Kd.R_mono (Kd.R_told (Kd.R_told (Kd.R_old (by (with_reducible repeat (first | apply Ra | apply Rn | apply Rd)); exact HO658.out) hb) (Kd.R_base ho0)) (Kd.R_base ho1)) (fun _ h_ => h_.1)); have n2_ := Aside0.mk (Kd.R_lower (Kd.R_new' (Kd.R_new' ho0 (Kd.R_lt (by (with_reducible repeat (first | apply Ra | apply Rn | apply Rd)); exact HO655.out))) (Kd.R_lt (by (with_reducible repeat (first | apply Ra | apply Rn | apply Rd)); exact HO658.out))) (below_size (by repeat (first | with_reducible exact HB.out | apply ba | apply bn | apply b1 | refine below_set ?_ GE600.out)))); have n3_ := Aside0.mk (Kd.R_lower (Kd.R_new' (Kd.R_new' ho1 (Kd.R_lt (by (with_reducible repeat (first | apply Ra | apply Rn | apply Rd)); exact HO655.out))) (Kd.R_lt (by (with_reducible repeat (first | apply Ra | apply Rn | apply Rd)); exact HO658.out))) (below_size (by repeat (first | with_reducible exact HB.out | apply ba | apply bn | apply b1 | refine below_set ?_ GE600.out)))); have n4_ := Aside0.mk (blk_below (g := gb600) (o := .cells #[.bool false, .slice none 0 0, .slice none 0 0] 25 (0, 0)) (by (with_reducible repeat (first | refine blk_drewN ?_ _ | refine blk_drew ?_ | refine blk_alloc ?_ _)); exact BK600.out) hb); have n5_ := Aside0.mk (below_step (by repeat (first | with_reducible exact HB.out | apply ba | apply bn | apply b1 | refine below_set ?_ GE600.out)) hb); clear HO655; clear HO658; clear BK600; clear HB; have HO655 := n0_; have HO658 := n1_; have HO662 := n2_; have HO665 := n3_; have BK600 := n4_; have HB := n5_; clear n0_ n1_ n2_ n3_ n4_ n5_; have hcz64_0 : w63.cell? ⟨gb600, 0, none⟩ = some (.bool false) := (blk_cell BK600.out 0).trans rfl; have hcz64_1 : w63.cell? ⟨gb600, 1, none⟩ = some (.slice none 0 0) := (blk_cell BK600.out 1).trans rfl; have hcz64_2 : w63.cell? ⟨gb600, 2, none⟩ = some (.slice none 0 0) := (blk_cell BK600.out 2).trans rfl; have hfz64_0 := blk_frozen BK600.out 0; have hfz64_1 := blk_frozen BK600.out 1; have hfz64_2 := blk_frozen BK600.out 2; obtain ⟨Ao65, co65, eo65⟩ := Kd.R_slice HO662.out; subst eo65; obtain ⟨Ao66, co66, eo66⟩ := Kd.R_slice HO665.out; subst eo66))
   refine bodyPost_ret (results_cell_row rfl _ _ gb600 25 #[.bool t659, .slice Ao65 t660.length co65, .slice Ao66 t663.length co66] (0, 0) _ rfl (by (with_reducible repeat (first | refine blk_drewN ?_ _ | refine blk_drew ?_ | refine blk_alloc ?_ _)); refine blk_put (cs := #[.bool t659, .slice Ao65 t660.length co65, .slice none 0 0]) ?_ 2 _ rfl; (with_reducible repeat (first | refine blk_drewN ?_ _ | refine blk_drew ?_ | refine blk_alloc ?_ _)); refine blk_put (cs := #[.bool t659, .slice none 0 0, .slice none 0 0]) ?_ 1 _ rfl; (with_reducible repeat (first | refine blk_drewN ?_ _ | refine blk_drew ?_ | refine blk_alloc ?_ _)); refine blk_put (cs := #[.bool false, .slice none 0 0, .slice none 0 0]) ?_ 0 _ rfl; (with_reducible repeat (first | refine blk_drewN ?_ _ | refine blk_drew ?_ | refine blk_alloc ?_ _)); exact BK600.out) Tryd.underlying25 rfl (by kernel_rfl)) rfl ?_
   exact ⟨_, _, by first | rfl | (simp [errW_none, errW_some] <;> rfl) | (simp [*, errW_none, errW_some] <;> rfl), by (with_reducible repeat (first | apply Ra | apply Rn | apply Rd)); exact Kd.R_mono (Kd.R_far (p := ⟨gb600, 2, none⟩) (Kd.R_far (p := ⟨gb600, 1, none⟩) (Kd.R_far (p := ⟨gb600, 0, none⟩) (Kd.R_types HO662.out BK600.out (by decide)) (fun _ hk => hk.2) (.bool t659)) (fun _ hk => hk.2) (.slice Ao65 t660.length co65)) (fun _ hk => hk.2) (.slice Ao66 t663.length co66)) (fun _ hk => hk.1.1.1), by (with_reducible repeat (first | apply Ra | apply Rn | apply Rd)); exact Kd.R_mono (Kd.R_far (p := ⟨gb600, 2, none⟩) (Kd.R_far (p := ⟨gb600, 1, none⟩) (Kd.R_far (p := ⟨gb600, 0, none⟩) (Kd.R_types HO665.out BK600.out (by decide)) (fun _ hk => hk.2) (.bool t659)) (fun _ hk => hk.2) (.slice Ao65 t660.length co65)) (fun _ hk => hk.2) (.slice Ao66 t663.length co66)) (fun _ hk => hk.1.1.1), by repeat (first | with_reducible exact HB.out | apply ba | apply bn | apply b1 | refine below_set ?_ GE600.out)⟩
end Go.Proofs.YtncdiodnbkhacaaDoor.Pq
end
section
namespace Go.Proofs.YtncdiodnbkhacaaDoor.Pq
open Go.RowKit Go.Proofs.YtncdiodnbkhacaaDoorW.PrintWords Go.Proofs.YtncdiodnbkhacaaDoorW.PrintLast Go.Proofs.YtncdiodnbkhacaaDoorW.PrintMore
attribute [local go_sem] max2_int min2_int max_two min_two max_three min_three max_four min_four
set_option linter.unusedVariables false
set_option linter.unusedSimpArgs false
theorem penumbralaw04_fixed.mono : ∀ k, LeO (penumbralaw04_fixed.f k ) (penumbralaw04_fixed.f (k + 1) ) := by
 intro  k
 unfold penumbralaw04_fixed.f
 with_reducible repeat' first
   | exact decimal_Natural.mono _ _
   | exact decimal_Parse.mono _ _
   | exact decimal_Print.mono _ _ _ _
   | exact penumbraref03_Is.mono _ _ _ _ _ _ _
   | exact penumbraref03_Of.mono _ _ _
   | exact rat_Of.mono _ _ _
   | exact LeO.refl _
   | exact LeO.none _
   | refine LeO.ite ?_ ?_
   | refine LeO.bind ?_ (fun _ => ?_)
def penumbralaw04_fixed.T5 : Bool × List (List Nat × List Nat) := (true, [([], []), ([0], [0]), ([1], [1]), ([2], [2]), ([2, 2], [2]), ([3, 4, 4, 2], [2, 3, 4]), ([2, 5], [2, 5]), ([6, 5], [6]), ([7], [7]), ([8, 7], [7, 8]), ([7, 9], [7, 9]), ([10, 7], [10]), ([11], [11]), ([11, 11], [11]), ([12, 13, 13, 11], [11, 12, 13]), ([11, 14], [11, 14]), ([15, 14], [15]), ([16], [16]), ([17, 16], [16, 17]), ([16, 18], [16, 18]), ([19, 16], [19]), ([20], [20]), ([21, 20], [20, 21]), ([20, 22], [20, 22]), ([23, 20], [23]), ([24, 24], [24]), ([25, 25, 24], [24, 25]), ([26, 24], [24, 26]), ([24, 27], [24, 27]), ([28, 26], [28]), ([29], [29]), ([30, 29, 29], [29, 30]), ([31, 29], [29, 31]), ([29, 32], [29, 32]), ([33, 31, 0, 1, 2, 3, 4, 5, 6, 7, 8, 9, 10, 11, 12, 13, 14, 15, 16, 17, 18, 19, 20, 21, 22, 23, 24, 25, 26, 27, 28, 29, 30, 31, 32, 33], [33])])
def penumbralaw04_fixed.B5 : List Nat := [0, 1, 3, 7, 7, 31, 63, 127, 255, 511, 1023, 2047, 4095, 4095, 16383, 32767, 65535, 131071, 262143, 524287, 1048575, 2097151, 4194303, 8388607, 16777215, 33554431, 67108863, 134217727, 268435455, 536870911, 1073741823, 2147483647, 4294967295, 8589934591, 17179869183]
theorem penumbralaw04_fixed.tab5 : rtab .any (opsOf Tryd.f8 5) = penumbralaw04_fixed.T5 := by kernel_rfl
theorem penumbralaw04_fixed.bits5 : waitsOk penumbralaw04_fixed.T5.2 penumbralaw04_fixed.B5 = true := by kernel_rfl
set_option maxHeartbeats 8000000 in
set_option maxRecDepth 100000 in
theorem penumbralaw04_fixed.calls (k : Nat)  (r : Bool) (w : World) (h : penumbralaw04_fixed.f k  = some r) :
  Calls Tryd.prog 8 #[] w fun e w' => e = .returned (.bool r) ∧ Below w.heap.size w w' := by
 have hu25 := Tryd.underlying25
 have HB := Aside0.mk (Below.refl w.heap.size w)
 have H : ((decimal_Parse.f k (⟨#[48, 46, 49, 50, 53]⟩ : ByteArray)).bind fun bt666 => ((decimal_Parse.f k (⟨#[48, 48, 55, 47, 48, 49, 52]⟩ : ByteArray)).bind fun bt675 => ((decimal_Parse.f k (⟨#[49, 47, 48]⟩ : ByteArray)).bind fun bt684 => ((decimal_Parse.f k (⟨#[49, 46]⟩ : ByteArray)).bind fun bt693 => (if bt666.2.2.2 = 0 then ((penumbraref03_Of.f k 1 8).bind fun bt702 => ((penumbraref03_Is.f k bt666.1 bt666.2.1 bt666.2.2.1 bt702.1 bt702.2.1 bt702.2.2).bind fun t709 => (if t709 = true then (if bt675.2.2.2 = 0 then ((penumbraref03_Of.f k 1 2).bind fun bt710 => ((penumbraref03_Is.f k bt675.1 bt675.2.1 bt675.2.2.1 bt710.1 bt710.2.1 bt710.2.2).bind fun t717 => (if t717 = true then (if bt684.2.2.2 = 42 then (if bt693.2.2.2 = 40 then ((rat_Of.f k (-3) 6).bind fun bt718 => ((decimal_Print.f k bt718.1 bt718.2.1 bt718.2.2).bind fun t725 => (if t725.toList = ([45, 49, 47, 50] : List UInt8) then ((decimal_Natural.f k (([0, 1] : List Int))).bind fun t729 => (some (t729.toList == ([52, 50, 57, 52, 57, 54, 55, 50, 57, 54] : List UInt8)))) else (none)))) else (none)) else (none)) else (none)))) else (none)) else (none)))) else (none)))))) = some r := h
 clear h
 replace H := Option.bind_eq_some_iff.mp H
 obtain ⟨⟨t666, t667, t670, t673⟩, A10, H⟩ := H
 try dsimp only at H
 have A1 := Aside0.mk A10
 clear A10
 replace H := Option.bind_eq_some_iff.mp H
 obtain ⟨⟨t675, t676, t679, t682⟩, A20, H⟩ := H
 try dsimp only at H
 have A2 := Aside0.mk A20
 clear A20
 replace H := Option.bind_eq_some_iff.mp H
 obtain ⟨⟨t684, t685, t688, t691⟩, A30, H⟩ := H
 try dsimp only at H
 have A3 := Aside0.mk A30
 clear A30
 replace H := Option.bind_eq_some_iff.mp H
 obtain ⟨⟨t693, t694, t697, t700⟩, A40, H⟩ := H
 try dsimp only at H
 have A4 := Aside0.mk A40
 clear A40
 by_cases c5 : t673 = 0
 case neg =>rw [if_neg c5] at H;exact absurd H (by simp)
 rw [if_pos c5] at H
 have c5b0 : (t673 == 0) = true := beq_iff_eq.mpr c5
 have c5b1 : (t673 != 0) = false := bne_eq_false_iff_eq.mpr c5
 clear c5
 replace H := Option.bind_eq_some_iff.mp H
 obtain ⟨⟨t702, t703, t706⟩, A60, H⟩ := H
 try dsimp only at H
 have A6 := Aside0.mk A60
 clear A60
 replace H := Option.bind_eq_some_iff.mp H
 obtain ⟨t709, A70, H⟩ := H
 try dsimp only at H
 have A7 := Aside0.mk A70
 clear A70
 by_cases c8 : t709 = true
 ·subst c8
  rw [if_pos rfl] at H
  by_cases c9 : t682 = 0
  case neg =>rw [if_neg c9] at H;exact absurd H (by simp)
  rw [if_pos c9] at H
  have c9b0 : (t682 == 0) = true := beq_iff_eq.mpr c9
  have c9b1 : (t682 != 0) = false := bne_eq_false_iff_eq.mpr c9
  clear c9
  replace H := Option.bind_eq_some_iff.mp H
  obtain ⟨⟨t710, t711, t714⟩, A100, H⟩ := H
  try dsimp only at H
  have A10 := Aside0.mk A100
  clear A100
  replace H := Option.bind_eq_some_iff.mp H
  obtain ⟨t717, A110, H⟩ := H
  try dsimp only at H
  have A11 := Aside0.mk A110
  clear A110
  by_cases c12 : t717 = true
  ·subst c12
   rw [if_pos rfl] at H
   by_cases c13 : t691 = 42
   case neg =>rw [if_neg c13] at H;exact absurd H (by simp)
   rw [if_pos c13] at H
   have c13b0 : (t691 == 42) = true := beq_iff_eq.mpr c13
   have c13b1 : (t691 != 42) = false := bne_eq_false_iff_eq.mpr c13
   clear c13
   by_cases c14 : t700 = 40
   case neg =>rw [if_neg c14] at H;exact absurd H (by simp)
   rw [if_pos c14] at H
   have c14b0 : (t700 == 40) = true := beq_iff_eq.mpr c14
   have c14b1 : (t700 != 40) = false := bne_eq_false_iff_eq.mpr c14
   clear c14
   replace H := Option.bind_eq_some_iff.mp H
   obtain ⟨⟨t718, t719, t722⟩, A150, H⟩ := H
   try dsimp only at H
   have A15 := Aside0.mk A150
   clear A150
   replace H := Option.bind_eq_some_iff.mp H
   obtain ⟨t725, A160, H⟩ := H
   try dsimp only at H
   have A16 := Aside0.mk A160
   clear A160
   by_cases c17 : t725.toList = ([45, 49, 47, 50] : List UInt8)
   case neg =>rw [if_neg c17] at H;exact absurd H (by simp)
   rw [if_pos c17] at H
   have c17b0 : (t725.toList == ([45, 49, 47, 50] : List UInt8)) = true := beq_iff_eq.mpr c17
   have c17b1 : (t725.toList != ([45, 49, 47, 50] : List UInt8)) = false := bne_eq_false_iff_eq.mpr c17
   clear c17
   obtain ⟨y726, hy726⟩ : ∃ y_ : List Int, y_ = (([0, 1] : List Int)) := ⟨_, rfl⟩
   replace H : ((decimal_Natural.f k y726).bind fun t729 => (some (t729.toList == ([52, 50, 57, 52, 57, 54, 55, 50, 57, 54] : List UInt8)))) = some r := by first | (rw [hy726]; with_reducible exact H) | (have H2_ := (Option.bind_some _ _).symm.trans H; rw [hy726]; with_reducible exact H2_) | (have H2_ := (Option.bind_some _ _).symm.trans H; with_reducible exact H2_) | with_reducible exact H | (rw [hy726]; exact H) | exact H
   have Ny726 := Aside0.mk hy726
   clear hy726
   replace H := Option.bind_eq_some_iff.mp H
   obtain ⟨t729, A180, H⟩ := H
   try dsimp only at H
   have A18 := Aside0.mk A180
   clear A180
   obtain rfl := Option.some.inj H
   go_enter Tryd.func8, Tryd.ntmps8
   try go_wp2_with (first | ((with_reducible refine gate_callee (f := 9) rfl ?_); refine goesL_ (some 10) rfl rfl Tryd.func9 (by kernel_rfl) rfl #[.string (⟨#[48, 46, 49, 50, 53]⟩ : ByteArray)] rfl (by (try simp only [List.map_toArray, List.map_cons, List.map_nil]); first | done | rfl) ?_; (with_reducible refine (decimal_Parse.calls k (⟨#[48, 46, 49, 50, 53]⟩ : ByteArray) t666 t667 t670 t673 _ A1.out).mono ?_); rintro e w19 ⟨v668, v671, rfl, ho0, ho1, hb⟩; refine ⟨_, rfl, ?_⟩; have n0_ := Aside0.mk (Kd.R_lower ho0 (below_size (by repeat (first | with_reducible exact HB.out | apply ba | apply bn | apply b1)))); have n1_ := Aside0.mk (Kd.R_lower ho1 (below_size (by repeat (first | with_reducible exact HB.out | apply ba | apply bn | apply b1)))); have n2_ := Aside0.mk (below_step (by repeat (first | with_reducible exact HB.out | apply ba | apply bn | apply b1)) hb); clear HB; have HO669 := n0_; have HO672 := n1_; have HB := n2_; clear n0_ n1_ n2_) | ((with_reducible refine gate_dst (N := 1) rfl ?_); (try (refine gate_guard (by rfl) ?_; dsimp only)); refine box_event ?hg (N := 1) ?hd (cs := #[.bool false, .slice none 0 0, .slice none 0 0]) (t := 25) ?hr ?_; (case hd => rfl); (case hg => rfl); (case hr => first | (go_simp; done) | (go_simp; (with_reducible rfl)) | (go_simp; rfl) | (go_simp; simp only [hu, Int.emod_sub_emod])); intro gb674 hg w20 hbox hb; have n0_ := Aside0.mk (Kd.R_below (by (with_reducible repeat (first | apply Ra | apply Rn | apply Rd)); exact HO669.out) hb); have n1_ := Aside0.mk (Kd.R_below (by (with_reducible repeat (first | apply Ra | apply Rn | apply Rd)); exact HO672.out) hb); have n2_ := Aside0.mk (below_step (by repeat (first | with_reducible exact HB.out | apply ba | apply bn | apply b1)) hb); have n3_ := Aside0.mk (hbox); have n4_ := Aside0.mk ((by rw [hg]; exact (below_size (by repeat (first | with_reducible exact HB.out | apply ba | apply bn | apply b1))) : w.heap.size ≤ gb674)); have n5_ := Aside0.mk ((by rw [hg]; exact (below_size (by repeat (first | with_reducible exact HB.out | apply ba | apply bn | apply b1))) : w.heap.size ≤ gb674)); clear HO669; clear HO672; clear HB; have HO669 := n0_; have HO672 := n1_; have HB := n2_; have BK674 := n3_; have GW674 := n4_; have GE674 := n5_; clear n0_ n1_ n2_ n3_ n4_ n5_; clear hb hbox hg; have hcz21_0 : w20.cell? ⟨gb674, 0, none⟩ = some (.bool false) := (blk_cell BK674.out 0).trans rfl; have hcz21_1 : w20.cell? ⟨gb674, 1, none⟩ = some (.slice none 0 0) := (blk_cell BK674.out 1).trans rfl; have hcz21_2 : w20.cell? ⟨gb674, 2, none⟩ = some (.slice none 0 0) := (blk_cell BK674.out 2).trans rfl; have hfz21_0 := blk_frozen BK674.out 0; have hfz21_1 := blk_frozen BK674.out 1; have hfz21_2 := blk_frozen BK674.out 2; obtain ⟨Ao22, co22, eo22⟩ := Kd.R_slice HO669.out; subst eo22; obtain ⟨Ao23, co23, eo23⟩ := Kd.R_slice HO672.out; subst eo23) | ((with_reducible refine gate_callee (f := 9) rfl ?_); refine goesL_ (some 14) rfl rfl Tryd.func9 (by kernel_rfl) rfl #[.string (⟨#[48, 48, 55, 47, 48, 49, 52]⟩ : ByteArray)] rfl (by (try simp only [List.map_toArray, List.map_cons, List.map_nil]); first | done | rfl) ?_; (with_reducible refine (decimal_Parse.calls k (⟨#[48, 48, 55, 47, 48, 49, 52]⟩ : ByteArray) t675 t676 t679 t682 _ A2.out).mono ?_); rintro e w24 ⟨v677, v680, rfl, ho0, ho1, hb⟩; refine ⟨_, rfl, ?_⟩; have n0_ := Aside0.mk (Kd.R_mono (Kd.R_told (Kd.R_told (Kd.R_old (by (with_reducible repeat (first | apply Ra | apply Rn | apply Rd)); exact (Kd.R_mono (Kd.R_far (p := ⟨gb674, 2, none⟩) (Kd.R_far (p := ⟨gb674, 1, none⟩) (Kd.R_far (p := ⟨gb674, 0, none⟩) (Kd.R_types HO669.out BK674.out (by decide)) (fun _ hk => hk.2) (.bool t666)) (fun _ hk => hk.2) (.slice Ao22 t667.length co22)) (fun _ hk => hk.2) (.slice Ao23 t670.length co23)) (fun _ h_ => h_.1))) hb) (Kd.R_base ho0)) (Kd.R_base ho1)) (fun _ h_ => h_.1)); have n1_ := Aside0.mk (Kd.R_mono (Kd.R_told (Kd.R_told (Kd.R_old (by (with_reducible repeat (first | apply Ra | apply Rn | apply Rd)); exact (Kd.R_mono (Kd.R_far (p := ⟨gb674, 2, none⟩) (Kd.R_far (p := ⟨gb674, 1, none⟩) (Kd.R_far (p := ⟨gb674, 0, none⟩) (Kd.R_types HO672.out BK674.out (by decide)) (fun _ hk => hk.2) (.bool t666)) (fun _ hk => hk.2) (.slice Ao22 t667.length co22)) (fun _ hk => hk.2) (.slice Ao23 t670.length co23)) (fun _ h_ => h_.1))) hb) (Kd.R_base ho0)) (Kd.R_base ho1)) (fun _ h_ => h_.1)); have n2_ := Aside0.mk (Kd.R_lower (Kd.R_new' (Kd.R_new' ho0 (Kd.R_lt (by (with_reducible repeat (first | apply Ra | apply Rn | apply Rd)); exact (Kd.R_mono (Kd.R_far (p := ⟨gb674, 2, none⟩) (Kd.R_far (p := ⟨gb674, 1, none⟩) (Kd.R_far (p := ⟨gb674, 0, none⟩) (Kd.R_types HO669.out BK674.out (by decide)) (fun _ hk => hk.2) (.bool t666)) (fun _ hk => hk.2) (.slice Ao22 t667.length co22)) (fun _ hk => hk.2) (.slice Ao23 t670.length co23)) (fun _ h_ => h_.1))))) (Kd.R_lt (by (with_reducible repeat (first | apply Ra | apply Rn | apply Rd)); exact (Kd.R_mono (Kd.R_far (p := ⟨gb674, 2, none⟩) (Kd.R_far (p := ⟨gb674, 1, none⟩) (Kd.R_far (p := ⟨gb674, 0, none⟩) (Kd.R_types HO672.out BK674.out (by decide)) (fun _ hk => hk.2) (.bool t666)) (fun _ hk => hk.2) (.slice Ao22 t667.length co22)) (fun _ hk => hk.2) (.slice Ao23 t670.length co23)) (fun _ h_ => h_.1))))) (below_size (by repeat (first | with_reducible exact HB.out | apply ba | apply bn | apply b1 | refine below_set ?_ GE674.out)))); have n3_ := Aside0.mk (Kd.R_lower (Kd.R_new' (Kd.R_new' ho1 (Kd.R_lt (by (with_reducible repeat (first | apply Ra | apply Rn | apply Rd)); exact (Kd.R_mono (Kd.R_far (p := ⟨gb674, 2, none⟩) (Kd.R_far (p := ⟨gb674, 1, none⟩) (Kd.R_far (p := ⟨gb674, 0, none⟩) (Kd.R_types HO669.out BK674.out (by decide)) (fun _ hk => hk.2) (.bool t666)) (fun _ hk => hk.2) (.slice Ao22 t667.length co22)) (fun _ hk => hk.2) (.slice Ao23 t670.length co23)) (fun _ h_ => h_.1))))) (Kd.R_lt (by (with_reducible repeat (first | apply Ra | apply Rn | apply Rd)); exact (Kd.R_mono (Kd.R_far (p := ⟨gb674, 2, none⟩) (Kd.R_far (p := ⟨gb674, 1, none⟩) (Kd.R_far (p := ⟨gb674, 0, none⟩) (Kd.R_types HO672.out BK674.out (by decide)) (fun _ hk => hk.2) (.bool t666)) (fun _ hk => hk.2) (.slice Ao22 t667.length co22)) (fun _ hk => hk.2) (.slice Ao23 t670.length co23)) (fun _ h_ => h_.1))))) (below_size (by repeat (first | with_reducible exact HB.out | apply ba | apply bn | apply b1 | refine below_set ?_ GE674.out)))); have n4_ := Aside0.mk (blk_below (g := gb674) (o := .cells #[.bool t666, .slice Ao22 t667.length co22, .slice Ao23 t670.length co23] 25 (0, 0)) (by (with_reducible repeat (first | refine blk_drewN ?_ _ | refine blk_drew ?_ | refine blk_alloc ?_ _)); refine blk_put (cs := #[.bool t666, .slice Ao22 t667.length co22, .slice none 0 0]) ?_ 2 _ rfl; (with_reducible repeat (first | refine blk_drewN ?_ _ | refine blk_drew ?_ | refine blk_alloc ?_ _)); refine blk_put (cs := #[.bool t666, .slice none 0 0, .slice none 0 0]) ?_ 1 _ rfl; (with_reducible repeat (first | refine blk_drewN ?_ _ | refine blk_drew ?_ | refine blk_alloc ?_ _)); refine blk_put (cs := #[.bool false, .slice none 0 0, .slice none 0 0]) ?_ 0 _ rfl; (with_reducible repeat (first | refine blk_drewN ?_ _ | refine blk_drew ?_ | refine blk_alloc ?_ _)); exact BK674.out) hb); have n5_ := Aside0.mk (below_step (by repeat (first | with_reducible exact HB.out | apply ba | apply bn | apply b1 | refine below_set ?_ GE674.out)) hb); clear HO669; clear HO672; clear BK674; clear HB; have HO669 := n0_; have HO672 := n1_; have HO678 := n2_; have HO681 := n3_; have BK674 := n4_; have HB := n5_; clear n0_ n1_ n2_ n3_ n4_ n5_) | ((with_reducible refine gate_dst (N := 3) rfl ?_); (try (refine gate_guard (by rfl) ?_; dsimp only)); refine box_event ?hg (N := 3) ?hd (cs := #[.bool false, .slice none 0 0, .slice none 0 0]) (t := 25) ?hr ?_; (case hd => rfl); (case hg => rfl); (case hr => first | (go_simp; done) | (go_simp; (with_reducible rfl)) | (go_simp; rfl) | (go_simp; simp only [hu, Int.emod_sub_emod])); intro gb683 hg w25 hbox hb; have n0_ := Aside0.mk (Kd.R_below (by (with_reducible repeat (first | apply Ra | apply Rn | apply Rd)); exact HO669.out) hb); have n1_ := Aside0.mk (Kd.R_below (by (with_reducible repeat (first | apply Ra | apply Rn | apply Rd)); exact HO672.out) hb); have n2_ := Aside0.mk (Kd.R_below (by (with_reducible repeat (first | apply Ra | apply Rn | apply Rd)); exact HO678.out) hb); have n3_ := Aside0.mk (Kd.R_below (by (with_reducible repeat (first | apply Ra | apply Rn | apply Rd)); exact HO681.out) hb); have n4_ := Aside0.mk (blk_below (g := gb674) (o := .cells #[.bool t666, .slice Ao22 t667.length co22, .slice Ao23 t670.length co23] 25 (0, 0)) (by (with_reducible repeat (first | refine blk_drewN ?_ _ | refine blk_drew ?_ | refine blk_alloc ?_ _)); exact BK674.out) hb); have n5_ := Aside0.mk (below_step (by repeat (first | with_reducible exact HB.out | apply ba | apply bn | apply b1 | refine below_set ?_ GE674.out)) hb); have n6_ := Aside0.mk (hbox); have n7_ := Aside0.mk ((by rw [hg]; exact (below_size (by repeat (first | with_reducible exact HB.out | apply ba | apply bn | apply b1 | refine below_set ?_ GE674.out))) : w.heap.size ≤ gb683)); have n8_ := Aside0.mk ((by rw [hg]; exact (below_size (by repeat (first | with_reducible exact HB.out | apply ba | apply bn | apply b1 | refine below_set ?_ GE674.out))) : w.heap.size ≤ gb683)); have n9_ := Aside0.mk ((by rw [hg]; exact Nat.ne_of_lt (blk_lt (g := gb674) (o := .cells #[.bool t666, .slice Ao22 t667.length co22, .slice Ao23 t670.length co23] 25 (0, 0)) (by (with_reducible repeat (first | refine blk_drewN ?_ _ | refine blk_drew ?_ | refine blk_alloc ?_ _)); exact BK674.out)) : gb674 ≠ gb683)); have n10_ := Aside0.mk ((by rw [hg]; exact Nat.ne_of_gt (blk_lt (g := gb674) (o := .cells #[.bool t666, .slice Ao22 t667.length co22, .slice Ao23 t670.length co23] 25 (0, 0)) (by (with_reducible repeat (first | refine blk_drewN ?_ _ | refine blk_drew ?_ | refine blk_alloc ?_ _)); exact BK674.out)) : gb683 ≠ gb674)); clear HO669; clear HO672; clear HO678; clear HO681; clear BK674; clear HB; have HO669 := n0_; have HO672 := n1_; have HO678 := n2_; have HO681 := n3_; have BK674 := n4_; have HB := n5_; have BK683 := n6_; have GW683 := n7_; have GE683 := n8_; have NB674_683 := n9_; have NB683_674 := n10_; clear n0_ n1_ n2_ n3_ n4_ n5_ n6_ n7_ n8_ n9_ n10_; clear hb hbox hg; have hnb26 := NB683_674.out; have hnc26 := NB674_683.out; have hcz27_0 : w25.cell? ⟨gb683, 0, none⟩ = some (.bool false) := (blk_cell BK683.out 0).trans rfl; have hcz27_1 : w25.cell? ⟨gb683, 1, none⟩ = some (.slice none 0 0) := (blk_cell BK683.out 1).trans rfl; have hcz27_2 : w25.cell? ⟨gb683, 2, none⟩ = some (.slice none 0 0) := (blk_cell BK683.out 2).trans rfl; have hfz27_0 := blk_frozen BK683.out 0; have hfz27_1 := blk_frozen BK683.out 1; have hfz27_2 := blk_frozen BK683.out 2; obtain ⟨Ao28, co28, eo28⟩ := Kd.R_slice HO678.out; subst eo28; obtain ⟨Ao29, co29, eo29⟩ := Kd.R_slice HO681.out; subst eo29) | ((with_reducible refine gate_callee (f := 9) rfl ?_); refine goesL_ (some 18) rfl rfl Tryd.func9 (by kernel_rfl) rfl #[.string (⟨#[49, 47, 48]⟩ : ByteArray)] rfl (by (try simp only [List.map_toArray, List.map_cons, List.map_nil]); first | done | rfl) ?_; (with_reducible refine (decimal_Parse.calls k (⟨#[49, 47, 48]⟩ : ByteArray) t684 t685 t688 t691 _ A3.out).mono ?_); rintro e w30 ⟨v686, v689, rfl, ho0, ho1, hb⟩; refine ⟨_, rfl, ?_⟩; have n0_ := Aside0.mk (Kd.R_mono (Kd.R_told (Kd.R_told (Kd.R_old (by (with_reducible repeat (first | apply Ra | apply Rn | apply Rd)); exact (Kd.R_mono (Kd.R_far (p := ⟨gb683, 2, none⟩) (Kd.R_far (p := ⟨gb683, 1, none⟩) (Kd.R_far (p := ⟨gb683, 0, none⟩) (Kd.R_types HO669.out BK683.out (by decide)) (fun _ hk => hk.2) (.bool t675)) (fun _ hk => hk.2) (.slice Ao28 t676.length co28)) (fun _ hk => hk.2) (.slice Ao29 t679.length co29)) (fun _ h_ => h_.1))) hb) (Kd.R_base ho0)) (Kd.R_base ho1)) (fun _ h_ => h_.1)); have n1_ := Aside0.mk (Kd.R_mono (Kd.R_told (Kd.R_told (Kd.R_old (by (with_reducible repeat (first | apply Ra | apply Rn | apply Rd)); exact (Kd.R_mono (Kd.R_far (p := ⟨gb683, 2, none⟩) (Kd.R_far (p := ⟨gb683, 1, none⟩) (Kd.R_far (p := ⟨gb683, 0, none⟩) (Kd.R_types HO672.out BK683.out (by decide)) (fun _ hk => hk.2) (.bool t675)) (fun _ hk => hk.2) (.slice Ao28 t676.length co28)) (fun _ hk => hk.2) (.slice Ao29 t679.length co29)) (fun _ h_ => h_.1))) hb) (Kd.R_base ho0)) (Kd.R_base ho1)) (fun _ h_ => h_.1)); have n2_ := Aside0.mk (Kd.R_mono (Kd.R_told (Kd.R_told (Kd.R_old (by (with_reducible repeat (first | apply Ra | apply Rn | apply Rd)); exact (Kd.R_mono (Kd.R_far (p := ⟨gb683, 2, none⟩) (Kd.R_far (p := ⟨gb683, 1, none⟩) (Kd.R_far (p := ⟨gb683, 0, none⟩) (Kd.R_types HO678.out BK683.out (by decide)) (fun _ hk => hk.2) (.bool t675)) (fun _ hk => hk.2) (.slice Ao28 t676.length co28)) (fun _ hk => hk.2) (.slice Ao29 t679.length co29)) (fun _ h_ => h_.1))) hb) (Kd.R_base ho0)) (Kd.R_base ho1)) (fun _ h_ => h_.1)); have n3_ := Aside0.mk (Kd.R_mono (Kd.R_told (Kd.R_told (Kd.R_old (by (with_reducible repeat (first | apply Ra | apply Rn | apply Rd)); exact (Kd.R_mono (Kd.R_far (p := ⟨gb683, 2, none⟩) (Kd.R_far (p := ⟨gb683, 1, none⟩) (Kd.R_far (p := ⟨gb683, 0, none⟩) (Kd.R_types HO681.out BK683.out (by decide)) (fun _ hk => hk.2) (.bool t675)) (fun _ hk => hk.2) (.slice Ao28 t676.length co28)) (fun _ hk => hk.2) (.slice Ao29 t679.length co29)) (fun _ h_ => h_.1))) hb) (Kd.R_base ho0)) (Kd.R_base ho1)) (fun _ h_ => h_.1)); have n4_ := Aside0.mk (Kd.R_lower (Kd.R_new' (Kd.R_new' (Kd.R_new' (Kd.R_new' ho0 (Kd.R_lt (by (with_reducible repeat (first | apply Ra | apply Rn | apply Rd)); exact (Kd.R_mono (Kd.R_far (p := ⟨gb683, 2, none⟩) (Kd.R_far (p := ⟨gb683, 1, none⟩) (Kd.R_far (p := ⟨gb683, 0, none⟩) (Kd.R_types HO669.out BK683.out (by decide)) (fun _ hk => hk.2) (.bool t675)) (fun _ hk => hk.2) (.slice Ao28 t676.length co28)) (fun _ hk => hk.2) (.slice Ao29 t679.length co29)) (fun _ h_ => h_.1))))) (Kd.R_lt (by (with_reducible repeat (first | apply Ra | apply Rn | apply Rd)); exact (Kd.R_mono (Kd.R_far (p := ⟨gb683, 2, none⟩) (Kd.R_far (p := ⟨gb683, 1, none⟩) (Kd.R_far (p := ⟨gb683, 0, none⟩) (Kd.R_types HO672.out BK683.out (by decide)) (fun _ hk => hk.2) (.bool t675)) (fun _ hk => hk.2) (.slice Ao28 t676.length co28)) (fun _ hk => hk.2) (.slice Ao29 t679.length co29)) (fun _ h_ => h_.1))))) (Kd.R_lt (by (with_reducible repeat (first | apply Ra | apply Rn | apply Rd)); exact (Kd.R_mono (Kd.R_far (p := ⟨gb683, 2, none⟩) (Kd.R_far (p := ⟨gb683, 1, none⟩) (Kd.R_far (p := ⟨gb683, 0, none⟩) (Kd.R_types HO678.out BK683.out (by decide)) (fun _ hk => hk.2) (.bool t675)) (fun _ hk => hk.2) (.slice Ao28 t676.length co28)) (fun _ hk => hk.2) (.slice Ao29 t679.length co29)) (fun _ h_ => h_.1))))) (Kd.R_lt (by (with_reducible repeat (first | apply Ra | apply Rn | apply Rd)); exact (Kd.R_mono (Kd.R_far (p := ⟨gb683, 2, none⟩) (Kd.R_far (p := ⟨gb683, 1, none⟩) (Kd.R_far (p := ⟨gb683, 0, none⟩) (Kd.R_types HO681.out BK683.out (by decide)) (fun _ hk => hk.2) (.bool t675)) (fun _ hk => hk.2) (.slice Ao28 t676.length co28)) (fun _ hk => hk.2) (.slice Ao29 t679.length co29)) (fun _ h_ => h_.1))))) (below_size (by repeat (first | with_reducible exact HB.out | apply ba | apply bn | apply b1 | refine below_set ?_ GE674.out | refine below_set ?_ GE683.out)))); have n5_ := Aside0.mk (Kd.R_lower (Kd.R_new' (Kd.R_new' (Kd.R_new' (Kd.R_new' ho1 (Kd.R_lt (by (with_reducible repeat (first | apply Ra | apply Rn | apply Rd)); exact (Kd.R_mono (Kd.R_far (p := ⟨gb683, 2, none⟩) (Kd.R_far (p := ⟨gb683, 1, none⟩) (Kd.R_far (p := ⟨gb683, 0, none⟩) (Kd.R_types HO669.out BK683.out (by decide)) (fun _ hk => hk.2) (.bool t675)) (fun _ hk => hk.2) (.slice Ao28 t676.length co28)) (fun _ hk => hk.2) (.slice Ao29 t679.length co29)) (fun _ h_ => h_.1))))) (Kd.R_lt (by (with_reducible repeat (first | apply Ra | apply Rn | apply Rd)); exact (Kd.R_mono (Kd.R_far (p := ⟨gb683, 2, none⟩) (Kd.R_far (p := ⟨gb683, 1, none⟩) (Kd.R_far (p := ⟨gb683, 0, none⟩) (Kd.R_types HO672.out BK683.out (by decide)) (fun _ hk => hk.2) (.bool t675)) (fun _ hk => hk.2) (.slice Ao28 t676.length co28)) (fun _ hk => hk.2) (.slice Ao29 t679.length co29)) (fun _ h_ => h_.1))))) (Kd.R_lt (by (with_reducible repeat (first | apply Ra | apply Rn | apply Rd)); exact (Kd.R_mono (Kd.R_far (p := ⟨gb683, 2, none⟩) (Kd.R_far (p := ⟨gb683, 1, none⟩) (Kd.R_far (p := ⟨gb683, 0, none⟩) (Kd.R_types HO678.out BK683.out (by decide)) (fun _ hk => hk.2) (.bool t675)) (fun _ hk => hk.2) (.slice Ao28 t676.length co28)) (fun _ hk => hk.2) (.slice Ao29 t679.length co29)) (fun _ h_ => h_.1))))) (Kd.R_lt (by (with_reducible repeat (first | apply Ra | apply Rn | apply Rd)); exact (Kd.R_mono (Kd.R_far (p := ⟨gb683, 2, none⟩) (Kd.R_far (p := ⟨gb683, 1, none⟩) (Kd.R_far (p := ⟨gb683, 0, none⟩) (Kd.R_types HO681.out BK683.out (by decide)) (fun _ hk => hk.2) (.bool t675)) (fun _ hk => hk.2) (.slice Ao28 t676.length co28)) (fun _ hk => hk.2) (.slice Ao29 t679.length co29)) (fun _ h_ => h_.1))))) (below_size (by repeat (first | with_reducible exact HB.out | apply ba | apply bn | apply b1 | refine below_set ?_ GE674.out | refine below_set ?_ GE683.out)))); have n6_ := Aside0.mk (blk_below (g := gb674) (o := .cells #[.bool t666, .slice Ao22 t667.length co22, .slice Ao23 t670.length co23] 25 (0, 0)) (by (with_reducible repeat (first | refine blk_drewN ?_ _ | refine blk_drew ?_ | refine blk_alloc ?_ _)); refine blk_far ?_ NB674_683.out _; (with_reducible repeat (first | refine blk_drewN ?_ _ | refine blk_drew ?_ | refine blk_alloc ?_ _)); refine blk_far ?_ NB674_683.out _; (with_reducible repeat (first | refine blk_drewN ?_ _ | refine blk_drew ?_ | refine blk_alloc ?_ _)); refine blk_far ?_ NB674_683.out _; (with_reducible repeat (first | refine blk_drewN ?_ _ | refine blk_drew ?_ | refine blk_alloc ?_ _)); exact BK674.out) hb); have n7_ := Aside0.mk (blk_below (g := gb683) (o := .cells #[.bool t675, .slice Ao28 t676.length co28, .slice Ao29 t679.length co29] 25 (0, 0)) (by (with_reducible repeat (first | refine blk_drewN ?_ _ | refine blk_drew ?_ | refine blk_alloc ?_ _)); refine blk_put (cs := #[.bool t675, .slice Ao28 t676.length co28, .slice none 0 0]) ?_ 2 _ rfl; (with_reducible repeat (first | refine blk_drewN ?_ _ | refine blk_drew ?_ | refine blk_alloc ?_ _)); refine blk_put (cs := #[.bool t675, .slice none 0 0, .slice none 0 0]) ?_ 1 _ rfl; (with_reducible repeat (first | refine blk_drewN ?_ _ | refine blk_drew ?_ | refine blk_alloc ?_ _)); refine blk_put (cs := #[.bool false, .slice none 0 0, .slice none 0 0]) ?_ 0 _ rfl; (with_reducible repeat (first | refine blk_drewN ?_ _ | refine blk_drew ?_ | refine blk_alloc ?_ _)); exact BK683.out) hb); have n8_ := Aside0.mk (below_step (by repeat (first | with_reducible exact HB.out | apply ba | apply bn | apply b1 | refine below_set ?_ GE674.out | refine below_set ?_ GE683.out)) hb); clear HO669; clear HO672; clear HO678; clear HO681; clear BK674; clear BK683; clear HB; have HO669 := n0_; have HO672 := n1_; have HO678 := n2_; have HO681 := n3_; have HO687 := n4_; have HO690 := n5_; have BK674 := n6_; have BK683 := n7_; have HB := n8_; clear n0_ n1_ n2_ n3_ n4_ n5_ n6_ n7_ n8_) | ((with_reducible refine gate_dst (N := 5) rfl ?_); (try (refine gate_guard (by rfl) ?_; dsimp only)); refine box_event ?hg (N := 5) ?hd (cs := #[.bool false, .slice none 0 0, .slice none 0 0]) (t := 25) ?hr ?_; (case hd => rfl); (case hg => rfl); (case hr => first | (go_simp; done) | (go_simp; (with_reducible rfl)) | (go_simp; rfl) | (go_simp; simp only [hu, Int.emod_sub_emod])); intro gb692 hg w31 hbox hb; have n0_ := Aside0.mk (Kd.R_below (by (with_reducible repeat (first | apply Ra | apply Rn | apply Rd)); exact HO669.out) hb); have n1_ := Aside0.mk (Kd.R_below (by (with_reducible repeat (first | apply Ra | apply Rn | apply Rd)); exact HO672.out) hb); have n2_ := Aside0.mk (Kd.R_below (by (with_reducible repeat (first | apply Ra | apply Rn | apply Rd)); exact HO678.out) hb); have n3_ := Aside0.mk (Kd.R_below (by (with_reducible repeat (first | apply Ra | apply Rn | apply Rd)); exact HO681.out) hb); have n4_ := Aside0.mk (Kd.R_below (by (with_reducible repeat (first | apply Ra | apply Rn | apply Rd)); exact HO687.out) hb); have n5_ := Aside0.mk (Kd.R_below (by (with_reducible repeat (first | apply Ra | apply Rn | apply Rd)); exact HO690.out) hb); have n6_ := Aside0.mk (blk_below (g := gb674) (o := .cells #[.bool t666, .slice Ao22 t667.length co22, .slice Ao23 t670.length co23] 25 (0, 0)) (by (with_reducible repeat (first | refine blk_drewN ?_ _ | refine blk_drew ?_ | refine blk_alloc ?_ _)); exact BK674.out) hb); have n7_ := Aside0.mk (blk_below (g := gb683) (o := .cells #[.bool t675, .slice Ao28 t676.length co28, .slice Ao29 t679.length co29] 25 (0, 0)) (by (with_reducible repeat (first | refine blk_drewN ?_ _ | refine blk_drew ?_ | refine blk_alloc ?_ _)); exact BK683.out) hb); have n8_ := Aside0.mk (below_step (by repeat (first | with_reducible exact HB.out | apply ba | apply bn | apply b1 | refine below_set ?_ GE674.out | refine below_set ?_ GE683.out)) hb); have n9_ := Aside0.mk (hbox); have n10_ := Aside0.mk ((by rw [hg]; exact (below_size (by repeat (first | with_reducible exact HB.out | apply ba | apply bn | apply b1 | refine below_set ?_ GE674.out | refine below_set ?_ GE683.out))) : w.heap.size ≤ gb692)); have n11_ := Aside0.mk ((by rw [hg]; exact (below_size (by repeat (first | with_reducible exact HB.out | apply ba | apply bn | apply b1 | refine below_set ?_ GE674.out | refine below_set ?_ GE683.out))) : w.heap.size ≤ gb692)); have n12_ := Aside0.mk ((by rw [hg]; exact Nat.ne_of_lt (blk_lt (g := gb674) (o := .cells #[.bool t666, .slice Ao22 t667.length co22, .slice Ao23 t670.length co23] 25 (0, 0)) (by (with_reducible repeat (first | refine blk_drewN ?_ _ | refine blk_drew ?_ | refine blk_alloc ?_ _)); exact BK674.out)) : gb674 ≠ gb692)); have n13_ := Aside0.mk ((by rw [hg]; exact Nat.ne_of_gt (blk_lt (g := gb674) (o := .cells #[.bool t666, .slice Ao22 t667.length co22, .slice Ao23 t670.length co23] 25 (0, 0)) (by (with_reducible repeat (first | refine blk_drewN ?_ _ | refine blk_drew ?_ | refine blk_alloc ?_ _)); exact BK674.out)) : gb692 ≠ gb674)); have n14_ := Aside0.mk ((by rw [hg]; exact Nat.ne_of_lt (blk_lt (g := gb683) (o := .cells #[.bool t675, .slice Ao28 t676.length co28, .slice Ao29 t679.length co29] 25 (0, 0)) (by (with_reducible repeat (first | refine blk_drewN ?_ _ | refine blk_drew ?_ | refine blk_alloc ?_ _)); exact BK683.out)) : gb683 ≠ gb692)); have n15_ := Aside0.mk ((by rw [hg]; exact Nat.ne_of_gt (blk_lt (g := gb683) (o := .cells #[.bool t675, .slice Ao28 t676.length co28, .slice Ao29 t679.length co29] 25 (0, 0)) (by (with_reducible repeat (first | refine blk_drewN ?_ _ | refine blk_drew ?_ | refine blk_alloc ?_ _)); exact BK683.out)) : gb692 ≠ gb683)); clear HO669; clear HO672; clear HO678; clear HO681; clear HO687; clear HO690; clear BK674; clear BK683; clear HB; have HO669 := n0_; have HO672 := n1_; have HO678 := n2_; have HO681 := n3_; have HO687 := n4_; have HO690 := n5_; have BK674 := n6_; have BK683 := n7_; have HB := n8_; have BK692 := n9_; have GW692 := n10_; have GE692 := n11_; have NB674_692 := n12_; have NB692_674 := n13_; have NB683_692 := n14_; have NB692_683 := n15_; clear n0_ n1_ n2_ n3_ n4_ n5_ n6_ n7_ n8_ n9_ n10_ n11_ n12_ n13_ n14_ n15_; clear hb hbox hg; have hnb32 := NB692_674.out; have hnc32 := NB674_692.out; have hnb33 := NB692_683.out; have hnc33 := NB683_692.out; have hcz34_0 : w31.cell? ⟨gb692, 0, none⟩ = some (.bool false) := (blk_cell BK692.out 0).trans rfl; have hcz34_1 : w31.cell? ⟨gb692, 1, none⟩ = some (.slice none 0 0) := (blk_cell BK692.out 1).trans rfl; have hcz34_2 : w31.cell? ⟨gb692, 2, none⟩ = some (.slice none 0 0) := (blk_cell BK692.out 2).trans rfl; have hfz34_0 := blk_frozen BK692.out 0; have hfz34_1 := blk_frozen BK692.out 1; have hfz34_2 := blk_frozen BK692.out 2; obtain ⟨Ao35, co35, eo35⟩ := Kd.R_slice HO687.out; subst eo35; obtain ⟨Ao36, co36, eo36⟩ := Kd.R_slice HO690.out; subst eo36) | ((with_reducible refine gate_callee (f := 9) rfl ?_); refine goesL_ (some 22) rfl rfl Tryd.func9 (by kernel_rfl) rfl #[.string (⟨#[49, 46]⟩ : ByteArray)] rfl (by (try simp only [List.map_toArray, List.map_cons, List.map_nil]); first | done | rfl) ?_; (with_reducible refine (decimal_Parse.calls k (⟨#[49, 46]⟩ : ByteArray) t693 t694 t697 t700 _ A4.out).mono ?_); rintro e w37 ⟨v695, v698, rfl, ho0, ho1, hb⟩; refine ⟨_, rfl, ?_⟩; have n0_ := Aside0.mk (Kd.R_mono (Kd.R_told (Kd.R_told (Kd.R_old (by (with_reducible repeat (first | apply Ra | apply Rn | apply Rd)); exact (Kd.R_mono (Kd.R_far (p := ⟨gb692, 2, none⟩) (Kd.R_far (p := ⟨gb692, 1, none⟩) (Kd.R_far (p := ⟨gb692, 0, none⟩) (Kd.R_types HO669.out BK692.out (by decide)) (fun _ hk => hk.2) (.bool t684)) (fun _ hk => hk.2) (.slice Ao35 t685.length co35)) (fun _ hk => hk.2) (.slice Ao36 t688.length co36)) (fun _ h_ => h_.1))) hb) (Kd.R_base ho0)) (Kd.R_base ho1)) (fun _ h_ => h_.1)); have n1_ := Aside0.mk (Kd.R_mono (Kd.R_told (Kd.R_told (Kd.R_old (by (with_reducible repeat (first | apply Ra | apply Rn | apply Rd)); exact (Kd.R_mono (Kd.R_far (p := ⟨gb692, 2, none⟩) (Kd.R_far (p := ⟨gb692, 1, none⟩) (Kd.R_far (p := ⟨gb692, 0, none⟩) (Kd.R_types HO672.out BK692.out (by decide)) (fun _ hk => hk.2) (.bool t684)) (fun _ hk => hk.2) (.slice Ao35 t685.length co35)) (fun _ hk => hk.2) (.slice Ao36 t688.length co36)) (fun _ h_ => h_.1))) hb) (Kd.R_base ho0)) (Kd.R_base ho1)) (fun _ h_ => h_.1)); have n2_ := Aside0.mk (Kd.R_mono (Kd.R_told (Kd.R_told (Kd.R_old (by (with_reducible repeat (first | apply Ra | apply Rn | apply Rd)); exact (Kd.R_mono (Kd.R_far (p := ⟨gb692, 2, none⟩) (Kd.R_far (p := ⟨gb692, 1, none⟩) (Kd.R_far (p := ⟨gb692, 0, none⟩) (Kd.R_types HO678.out BK692.out (by decide)) (fun _ hk => hk.2) (.bool t684)) (fun _ hk => hk.2) (.slice Ao35 t685.length co35)) (fun _ hk => hk.2) (.slice Ao36 t688.length co36)) (fun _ h_ => h_.1))) hb) (Kd.R_base ho0)) (Kd.R_base ho1)) (fun _ h_ => h_.1)); have n3_ := Aside0.mk (Kd.R_mono (Kd.R_told (Kd.R_told (Kd.R_old (by (with_reducible repeat (first | apply Ra | apply Rn | apply Rd)); exact (Kd.R_mono (Kd.R_far (p := ⟨gb692, 2, none⟩) (Kd.R_far (p := ⟨gb692, 1, none⟩) (Kd.R_far (p := ⟨gb692, 0, none⟩) (Kd.R_types HO681.out BK692.out (by decide)) (fun _ hk => hk.2) (.bool t684)) (fun _ hk => hk.2) (.slice Ao35 t685.length co35)) (fun _ hk => hk.2) (.slice Ao36 t688.length co36)) (fun _ h_ => h_.1))) hb) (Kd.R_base ho0)) (Kd.R_base ho1)) (fun _ h_ => h_.1)); have n4_ := Aside0.mk (Kd.R_mono (Kd.R_told (Kd.R_told (Kd.R_old (by (with_reducible repeat (first | apply Ra | apply Rn | apply Rd)); exact (Kd.R_mono (Kd.R_far (p := ⟨gb692, 2, none⟩) (Kd.R_far (p := ⟨gb692, 1, none⟩) (Kd.R_far (p := ⟨gb692, 0, none⟩) (Kd.R_types HO687.out BK692.out (by decide)) (fun _ hk => hk.2) (.bool t684)) (fun _ hk => hk.2) (.slice Ao35 t685.length co35)) (fun _ hk => hk.2) (.slice Ao36 t688.length co36)) (fun _ h_ => h_.1))) hb) (Kd.R_base ho0)) (Kd.R_base ho1)) (fun _ h_ => h_.1)); have n5_ := Aside0.mk (Kd.R_mono (Kd.R_told (Kd.R_told (Kd.R_old (by (with_reducible repeat (first | apply Ra | apply Rn | apply Rd)); exact (Kd.R_mono (Kd.R_far (p := ⟨gb692, 2, none⟩) (Kd.R_far (p := ⟨gb692, 1, none⟩) (Kd.R_far (p := ⟨gb692, 0, none⟩) (Kd.R_types HO690.out BK692.out (by decide)) (fun _ hk => hk.2) (.bool t684)) (fun _ hk => hk.2) (.slice Ao35 t685.length co35)) (fun _ hk => hk.2) (.slice Ao36 t688.length co36)) (fun _ h_ => h_.1))) hb) (Kd.R_base ho0)) (Kd.R_base ho1)) (fun _ h_ => h_.1)); have n6_ := Aside0.mk (Kd.R_lower (Kd.R_new' (Kd.R_new' (Kd.R_new' (Kd.R_new' (Kd.R_new' (Kd.R_new' ho0 (Kd.R_lt (by (with_reducible repeat (first | apply Ra | apply Rn | apply Rd)); exact (Kd.R_mono (Kd.R_far (p := ⟨gb692, 2, none⟩) (Kd.R_far (p := ⟨gb692, 1, none⟩) (Kd.R_far (p := ⟨gb692, 0, none⟩) (Kd.R_types HO669.out BK692.out (by decide)) (fun _ hk => hk.2) (.bool t684)) (fun _ hk => hk.2) (.slice Ao35 t685.length co35)) (fun _ hk => hk.2) (.slice Ao36 t688.length co36)) (fun _ h_ => h_.1))))) (Kd.R_lt (by (with_reducible repeat (first | apply Ra | apply Rn | apply Rd)); exact (Kd.R_mono (Kd.R_far (p := ⟨gb692, 2, none⟩) (Kd.R_far (p := ⟨gb692, 1, none⟩) (Kd.R_far (p := ⟨gb692, 0, none⟩) (Kd.R_types HO672.out BK692.out (by decide)) (fun _ hk => hk.2) (.bool t684)) (fun _ hk => hk.2) (.slice Ao35 t685.length co35)) (fun _ hk => hk.2) (.slice Ao36 t688.length co36)) (fun _ h_ => h_.1))))) (Kd.R_lt (by (with_reducible repeat (first | apply Ra | apply Rn | apply Rd)); exact (Kd.R_mono (Kd.R_far (p := ⟨gb692, 2, none⟩) (Kd.R_far (p := ⟨gb692, 1, none⟩) (Kd.R_far (p := ⟨gb692, 0, none⟩) (Kd.R_types HO678.out BK692.out (by decide)) (fun _ hk => hk.2) (.bool t684)) (fun _ hk => hk.2) (.slice Ao35 t685.length co35)) (fun _ hk => hk.2) (.slice Ao36 t688.length co36)) (fun _ h_ => h_.1))))) (Kd.R_lt (by (with_reducible repeat (first | apply Ra | apply Rn | apply Rd)); exact (Kd.R_mono (Kd.R_far (p := ⟨gb692, 2, none⟩) (Kd.R_far (p := ⟨gb692, 1, none⟩) (Kd.R_far (p := ⟨gb692, 0, none⟩) (Kd.R_types HO681.out BK692.out (by decide)) (fun _ hk => hk.2) (.bool t684)) (fun _ hk => hk.2) (.slice Ao35 t685.length co35)) (fun _ hk => hk.2) (.slice Ao36 t688.length co36)) (fun _ h_ => h_.1))))) (Kd.R_lt (by (with_reducible repeat (first | apply Ra | apply Rn | apply Rd)); exact (Kd.R_mono (Kd.R_far (p := ⟨gb692, 2, none⟩) (Kd.R_far (p := ⟨gb692, 1, none⟩) (Kd.R_far (p := ⟨gb692, 0, none⟩) (Kd.R_types HO687.out BK692.out (by decide)) (fun _ hk => hk.2) (.bool t684)) (fun _ hk => hk.2) (.slice Ao35 t685.length co35)) (fun _ hk => hk.2) (.slice Ao36 t688.length co36)) (fun _ h_ => h_.1))))) (Kd.R_lt (by (with_reducible repeat (first | apply Ra | apply Rn | apply Rd)); exact (Kd.R_mono (Kd.R_far (p := ⟨gb692, 2, none⟩) (Kd.R_far (p := ⟨gb692, 1, none⟩) (Kd.R_far (p := ⟨gb692, 0, none⟩) (Kd.R_types HO690.out BK692.out (by decide)) (fun _ hk => hk.2) (.bool t684)) (fun _ hk => hk.2) (.slice Ao35 t685.length co35)) (fun _ hk => hk.2) (.slice Ao36 t688.length co36)) (fun _ h_ => h_.1))))) (below_size (by repeat (first | with_reducible exact HB.out | apply ba | apply bn | apply b1 | refine below_set ?_ GE674.out | refine below_set ?_ GE683.out | refine below_set ?_ GE692.out)))); have n7_ := Aside0.mk (Kd.R_lower (Kd.R_new' (Kd.R_new' (Kd.R_new' (Kd.R_new' (Kd.R_new' (Kd.R_new' ho1 (Kd.R_lt (by (with_reducible repeat (first | apply Ra | apply Rn | apply Rd)); exact (Kd.R_mono (Kd.R_far (p := ⟨gb692, 2, none⟩) (Kd.R_far (p := ⟨gb692, 1, none⟩) (Kd.R_far (p := ⟨gb692, 0, none⟩) (Kd.R_types HO669.out BK692.out (by decide)) (fun _ hk => hk.2) (.bool t684)) (fun _ hk => hk.2) (.slice Ao35 t685.length co35)) (fun _ hk => hk.2) (.slice Ao36 t688.length co36)) (fun _ h_ => h_.1))))) (Kd.R_lt (by (with_reducible repeat (first | apply Ra | apply Rn | apply Rd)); exact (Kd.R_mono (Kd.R_far (p := ⟨gb692, 2, none⟩) (Kd.R_far (p := ⟨gb692, 1, none⟩) (Kd.R_far (p := ⟨gb692, 0, none⟩) (Kd.R_types HO672.out BK692.out (by decide)) (fun _ hk => hk.2) (.bool t684)) (fun _ hk => hk.2) (.slice Ao35 t685.length co35)) (fun _ hk => hk.2) (.slice Ao36 t688.length co36)) (fun _ h_ => h_.1))))) (Kd.R_lt (by (with_reducible repeat (first | apply Ra | apply Rn | apply Rd)); exact (Kd.R_mono (Kd.R_far (p := ⟨gb692, 2, none⟩) (Kd.R_far (p := ⟨gb692, 1, none⟩) (Kd.R_far (p := ⟨gb692, 0, none⟩) (Kd.R_types HO678.out BK692.out (by decide)) (fun _ hk => hk.2) (.bool t684)) (fun _ hk => hk.2) (.slice Ao35 t685.length co35)) (fun _ hk => hk.2) (.slice Ao36 t688.length co36)) (fun _ h_ => h_.1))))) (Kd.R_lt (by (with_reducible repeat (first | apply Ra | apply Rn | apply Rd)); exact (Kd.R_mono (Kd.R_far (p := ⟨gb692, 2, none⟩) (Kd.R_far (p := ⟨gb692, 1, none⟩) (Kd.R_far (p := ⟨gb692, 0, none⟩) (Kd.R_types HO681.out BK692.out (by decide)) (fun _ hk => hk.2) (.bool t684)) (fun _ hk => hk.2) (.slice Ao35 t685.length co35)) (fun _ hk => hk.2) (.slice Ao36 t688.length co36)) (fun _ h_ => h_.1))))) (Kd.R_lt (by (with_reducible repeat (first | apply Ra | apply Rn | apply Rd)); exact (Kd.R_mono (Kd.R_far (p := ⟨gb692, 2, none⟩) (Kd.R_far (p := ⟨gb692, 1, none⟩) (Kd.R_far (p := ⟨gb692, 0, none⟩) (Kd.R_types HO687.out BK692.out (by decide)) (fun _ hk => hk.2) (.bool t684)) (fun _ hk => hk.2) (.slice Ao35 t685.length co35)) (fun _ hk => hk.2) (.slice Ao36 t688.length co36)) (fun _ h_ => h_.1))))) (Kd.R_lt (by (with_reducible repeat (first | apply Ra | apply Rn | apply Rd)); exact (Kd.R_mono (Kd.R_far (p := ⟨gb692, 2, none⟩) (Kd.R_far (p := ⟨gb692, 1, none⟩) (Kd.R_far (p := ⟨gb692, 0, none⟩) (Kd.R_types HO690.out BK692.out (by decide)) (fun _ hk => hk.2) (.bool t684)) (fun _ hk => hk.2) (.slice Ao35 t685.length co35)) (fun _ hk => hk.2) (.slice Ao36 t688.length co36)) (fun _ h_ => h_.1))))) (below_size (by repeat (first | with_reducible exact HB.out | apply ba | apply bn | apply b1 | refine below_set ?_ GE674.out | refine below_set ?_ GE683.out | refine below_set ?_ GE692.out)))); have n8_ := Aside0.mk (blk_below (g := gb674) (o := .cells #[.bool t666, .slice Ao22 t667.length co22, .slice Ao23 t670.length co23] 25 (0, 0)) (by (with_reducible repeat (first | refine blk_drewN ?_ _ | refine blk_drew ?_ | refine blk_alloc ?_ _)); refine blk_far ?_ NB674_692.out _; (with_reducible repeat (first | refine blk_drewN ?_ _ | refine blk_drew ?_ | refine blk_alloc ?_ _)); refine blk_far ?_ NB674_692.out _; (with_reducible repeat (first | refine blk_drewN ?_ _ | refine blk_drew ?_ | refine blk_alloc ?_ _)); refine blk_far ?_ NB674_692.out _; (with_reducible repeat (first | refine blk_drewN ?_ _ | refine blk_drew ?_ | refine blk_alloc ?_ _)); exact BK674.out) hb); have n9_ := Aside0.mk (blk_below (g := gb683) (o := .cells #[.bool t675, .slice Ao28 t676.length co28, .slice Ao29 t679.length co29] 25 (0, 0)) (by (with_reducible repeat (first | refine blk_drewN ?_ _ | refine blk_drew ?_ | refine blk_alloc ?_ _)); refine blk_far ?_ NB683_692.out _; (with_reducible repeat (first | refine blk_drewN ?_ _ | refine blk_drew ?_ | refine blk_alloc ?_ _)); refine blk_far ?_ NB683_692.out _; (with_reducible repeat (first | refine blk_drewN ?_ _ | refine blk_drew ?_ | refine blk_alloc ?_ _)); refine blk_far ?_ NB683_692.out _; (with_reducible repeat (first | refine blk_drewN ?_ _ | refine blk_drew ?_ | refine blk_alloc ?_ _)); exact BK683.out) hb); have n10_ := Aside0.mk (blk_below (g := gb692) (o := .cells #[.bool t684, .slice Ao35 t685.length co35, .slice Ao36 t688.length co36] 25 (0, 0)) (by (with_reducible repeat (first | refine blk_drewN ?_ _ | refine blk_drew ?_ | refine blk_alloc ?_ _)); refine blk_put (cs := #[.bool t684, .slice Ao35 t685.length co35, .slice none 0 0]) ?_ 2 _ rfl; (with_reducible repeat (first | refine blk_drewN ?_ _ | refine blk_drew ?_ | refine blk_alloc ?_ _)); refine blk_put (cs := #[.bool t684, .slice none 0 0, .slice none 0 0]) ?_ 1 _ rfl; (with_reducible repeat (first | refine blk_drewN ?_ _ | refine blk_drew ?_ | refine blk_alloc ?_ _)); refine blk_put (cs := #[.bool false, .slice none 0 0, .slice none 0 0]) ?_ 0 _ rfl; (with_reducible repeat (first | refine blk_drewN ?_ _ | refine blk_drew ?_ | refine blk_alloc ?_ _)); exact BK692.out) hb); have n11_ := Aside0.mk (below_step (by repeat (first | with_reducible exact HB.out | apply ba | apply bn | apply b1 | refine below_set ?_ GE674.out | refine below_set ?_ GE683.out | refine below_set ?_ GE692.out)) hb); clear HO669; clear HO672; clear HO678; clear HO681; clear HO687; clear HO690; clear BK674; clear BK683; clear BK692; clear HB; have HO669 := n0_; have HO672 := n1_; have HO678 := n2_; have HO681 := n3_; have HO687 := n4_; have HO690 := n5_; have HO696 := n6_; have HO699 := n7_; have BK674 := n8_; have BK683 := n9_; have BK692 := n10_; have HB := n11_; clear n0_ n1_ n2_ n3_ n4_ n5_ n6_ n7_ n8_ n9_ n10_ n11_) | ((with_reducible refine gate_dst (N := 7) rfl ?_); (try (refine gate_guard (by rfl) ?_; dsimp only)); refine box_event ?hg (N := 7) ?hd (cs := #[.bool false, .slice none 0 0, .slice none 0 0]) (t := 25) ?hr ?_; (case hd => rfl); (case hg => rfl); (case hr => first | (go_simp; done) | (go_simp; (with_reducible rfl)) | (go_simp; rfl) | (go_simp; simp only [hu, Int.emod_sub_emod])); intro gb701 hg w38 hbox hb; have n0_ := Aside0.mk (Kd.R_below (by (with_reducible repeat (first | apply Ra | apply Rn | apply Rd)); exact HO669.out) hb); have n1_ := Aside0.mk (Kd.R_below (by (with_reducible repeat (first | apply Ra | apply Rn | apply Rd)); exact HO672.out) hb); have n2_ := Aside0.mk (Kd.R_below (by (with_reducible repeat (first | apply Ra | apply Rn | apply Rd)); exact HO678.out) hb); have n3_ := Aside0.mk (Kd.R_below (by (with_reducible repeat (first | apply Ra | apply Rn | apply Rd)); exact HO681.out) hb); have n4_ := Aside0.mk (Kd.R_below (by (with_reducible repeat (first | apply Ra | apply Rn | apply Rd)); exact HO687.out) hb); have n5_ := Aside0.mk (Kd.R_below (by (with_reducible repeat (first | apply Ra | apply Rn | apply Rd)); exact HO690.out) hb); have n6_ := Aside0.mk (Kd.R_below (by (with_reducible repeat (first | apply Ra | apply Rn | apply Rd)); exact HO696.out) hb); have n7_ := Aside0.mk (Kd.R_below (by (with_reducible repeat (first | apply Ra | apply Rn | apply Rd)); exact HO699.out) hb); have n8_ := Aside0.mk (blk_below (g := gb674) (o := .cells #[.bool t666, .slice Ao22 t667.length co22, .slice Ao23 t670.length co23] 25 (0, 0)) (by (with_reducible repeat (first | refine blk_drewN ?_ _ | refine blk_drew ?_ | refine blk_alloc ?_ _)); exact BK674.out) hb); have n9_ := Aside0.mk (blk_below (g := gb683) (o := .cells #[.bool t675, .slice Ao28 t676.length co28, .slice Ao29 t679.length co29] 25 (0, 0)) (by (with_reducible repeat (first | refine blk_drewN ?_ _ | refine blk_drew ?_ | refine blk_alloc ?_ _)); exact BK683.out) hb); have n10_ := Aside0.mk (blk_below (g := gb692) (o := .cells #[.bool t684, .slice Ao35 t685.length co35, .slice Ao36 t688.length co36] 25 (0, 0)) (by (with_reducible repeat (first | refine blk_drewN ?_ _ | refine blk_drew ?_ | refine blk_alloc ?_ _)); exact BK692.out) hb); have n11_ := Aside0.mk (below_step (by repeat (first | with_reducible exact HB.out | apply ba | apply bn | apply b1 | refine below_set ?_ GE674.out | refine below_set ?_ GE683.out | refine below_set ?_ GE692.out)) hb); have n12_ := Aside0.mk (hbox); have n13_ := Aside0.mk ((by rw [hg]; exact (below_size (by repeat (first | with_reducible exact HB.out | apply ba | apply bn | apply b1 | refine below_set ?_ GE674.out | refine below_set ?_ GE683.out | refine below_set ?_ GE692.out))) : w.heap.size ≤ gb701)); have n14_ := Aside0.mk ((by rw [hg]; exact (below_size (by repeat (first | with_reducible exact HB.out | apply ba | apply bn | apply b1 | refine below_set ?_ GE674.out | refine below_set ?_ GE683.out | refine below_set ?_ GE692.out))) : w.heap.size ≤ gb701)); have n15_ := Aside0.mk ((by rw [hg]; exact Nat.ne_of_lt (blk_lt (g := gb674) (o := .cells #[.bool t666, .slice Ao22 t667.length co22, .slice Ao23 t670.length co23] 25 (0, 0)) (by (with_reducible repeat (first | refine blk_drewN ?_ _ | refine blk_drew ?_ | refine blk_alloc ?_ _)); exact BK674.out)) : gb674 ≠ gb701)); have n16_ := Aside0.mk ((by rw [hg]; exact Nat.ne_of_gt (blk_lt (g := gb674) (o := .cells #[.bool t666, .slice Ao22 t667.length co22, .slice Ao23 t670.length co23] 25 (0, 0)) (by (with_reducible repeat (first | refine blk_drewN ?_ _ | refine blk_drew ?_ | refine blk_alloc ?_ _)); exact BK674.out)) : gb701 ≠ gb674)); have n17_ := Aside0.mk ((by rw [hg]; exact Nat.ne_of_lt (blk_lt (g := gb683) (o := .cells #[.bool t675, .slice Ao28 t676.length co28, .slice Ao29 t679.length co29] 25 (0, 0)) (by (with_reducible repeat (first | refine blk_drewN ?_ _ | refine blk_drew ?_ | refine blk_alloc ?_ _)); exact BK683.out)) : gb683 ≠ gb701)); have n18_ := Aside0.mk ((by rw [hg]; exact Nat.ne_of_gt (blk_lt (g := gb683) (o := .cells #[.bool t675, .slice Ao28 t676.length co28, .slice Ao29 t679.length co29] 25 (0, 0)) (by (with_reducible repeat (first | refine blk_drewN ?_ _ | refine blk_drew ?_ | refine blk_alloc ?_ _)); exact BK683.out)) : gb701 ≠ gb683)); have n19_ := Aside0.mk ((by rw [hg]; exact Nat.ne_of_lt (blk_lt (g := gb692) (o := .cells #[.bool t684, .slice Ao35 t685.length co35, .slice Ao36 t688.length co36] 25 (0, 0)) (by (with_reducible repeat (first | refine blk_drewN ?_ _ | refine blk_drew ?_ | refine blk_alloc ?_ _)); exact BK692.out)) : gb692 ≠ gb701)); have n20_ := Aside0.mk ((by rw [hg]; exact Nat.ne_of_gt (blk_lt (g := gb692) (o := .cells #[.bool t684, .slice Ao35 t685.length co35, .slice Ao36 t688.length co36] 25 (0, 0)) (by (with_reducible repeat (first | refine blk_drewN ?_ _ | refine blk_drew ?_ | refine blk_alloc ?_ _)); exact BK692.out)) : gb701 ≠ gb692)); clear HO669; clear HO672; clear HO678; clear HO681; clear HO687; clear HO690; clear HO696; clear HO699; clear BK674; clear BK683; clear BK692; clear HB; have HO669 := n0_; have HO672 := n1_; have HO678 := n2_; have HO681 := n3_; have HO687 := n4_; have HO690 := n5_; have HO696 := n6_; have HO699 := n7_; have BK674 := n8_; have BK683 := n9_; have BK692 := n10_; have HB := n11_; have BK701 := n12_; have GW701 := n13_; have GE701 := n14_; have NB674_701 := n15_; have NB701_674 := n16_; have NB683_701 := n17_; have NB701_683 := n18_; have NB692_701 := n19_; have NB701_692 := n20_; clear n0_ n1_ n2_ n3_ n4_ n5_ n6_ n7_ n8_ n9_ n10_ n11_ n12_ n13_ n14_ n15_ n16_ n17_ n18_ n19_ n20_; clear hb hbox hg; have hnb39 := NB701_674.out; have hnc39 := NB674_701.out; have hnb40 := NB701_683.out; have hnc40 := NB683_701.out; have hnb41 := NB701_692.out; have hnc41 := NB692_701.out; have hcz42_0 : w38.cell? ⟨gb701, 0, none⟩ = some (.bool false) := (blk_cell BK701.out 0).trans rfl; have hcz42_1 : w38.cell? ⟨gb701, 1, none⟩ = some (.slice none 0 0) := (blk_cell BK701.out 1).trans rfl; have hcz42_2 : w38.cell? ⟨gb701, 2, none⟩ = some (.slice none 0 0) := (blk_cell BK701.out 2).trans rfl; have hfz42_0 := blk_frozen BK701.out 0; have hfz42_1 := blk_frozen BK701.out 1; have hfz42_2 := blk_frozen BK701.out 2; obtain ⟨Ao43, co43, eo43⟩ := Kd.R_slice HO696.out; subst eo43; obtain ⟨Ao44, co44, eo44⟩ := Kd.R_slice HO699.out; subst eo44))
   have n0_ : Aside0 (Kd.R (Kd.int .u32) 35 (((w38.setCell ⟨gb701, 0, none⟩ (.bool t693)).setCell ⟨gb701, 1, none⟩ (.slice Ao43 t694.length co43)).setCell ⟨gb701, 2, none⟩ (.slice Ao44 t697.length co44)) w.heap.size (fun k_ => some k_ ≠ (.slice Ao23 t670.length co23 : Value).ownBlock ∧ some k_ ≠ (.slice Ao28 t676.length co28 : Value).ownBlock ∧ some k_ ≠ (.slice Ao29 t679.length co29 : Value).ownBlock ∧ some k_ ≠ (.slice Ao35 t685.length co35 : Value).ownBlock ∧ some k_ ≠ (.slice Ao36 t688.length co36 : Value).ownBlock ∧ some k_ ≠ (.slice Ao43 t694.length co43 : Value).ownBlock ∧ some k_ ≠ (.slice Ao44 t697.length co44 : Value).ownBlock) (.slice Ao22 t667.length co22) t667) := ⟨by (with_reducible repeat (first | apply Ra | apply Rn | apply Rd)); exact Kd.R_mono (Kd.R_far (p := ⟨gb701, 2, none⟩) (Kd.R_far (p := ⟨gb701, 1, none⟩) (Kd.R_far (p := ⟨gb701, 0, none⟩) (Kd.R_types HO669.out BK701.out (by decide)) (fun _ hk => hk.2) (.bool t693)) (fun _ hk => hk.2) (.slice Ao43 t694.length co43)) (fun _ hk => hk.2) (.slice Ao44 t697.length co44)) (fun _ hk => ⟨hk.1.1.1.1.1.1.1, ⟨hk.1.1.1.1.1.1.2, ⟨hk.1.1.1.1.1.2, ⟨hk.1.1.1.1.2, ⟨hk.1.1.1.2, ⟨hk.1.1.2, hk.1.2⟩⟩⟩⟩⟩⟩)⟩
   have n1_ : Aside0 (Kd.R (Kd.int .u32) 35 (((w38.setCell ⟨gb701, 0, none⟩ (.bool t693)).setCell ⟨gb701, 1, none⟩ (.slice Ao43 t694.length co43)).setCell ⟨gb701, 2, none⟩ (.slice Ao44 t697.length co44)) w.heap.size (fun k_ => some k_ ≠ (.slice Ao22 t667.length co22 : Value).ownBlock ∧ some k_ ≠ (.slice Ao28 t676.length co28 : Value).ownBlock ∧ some k_ ≠ (.slice Ao29 t679.length co29 : Value).ownBlock ∧ some k_ ≠ (.slice Ao35 t685.length co35 : Value).ownBlock ∧ some k_ ≠ (.slice Ao36 t688.length co36 : Value).ownBlock ∧ some k_ ≠ (.slice Ao43 t694.length co43 : Value).ownBlock ∧ some k_ ≠ (.slice Ao44 t697.length co44 : Value).ownBlock) (.slice Ao23 t670.length co23) t670) := ⟨by (with_reducible repeat (first | apply Ra | apply Rn | apply Rd)); exact Kd.R_mono (Kd.R_far (p := ⟨gb701, 2, none⟩) (Kd.R_far (p := ⟨gb701, 1, none⟩) (Kd.R_far (p := ⟨gb701, 0, none⟩) (Kd.R_types HO672.out BK701.out (by decide)) (fun _ hk => hk.2) (.bool t693)) (fun _ hk => hk.2) (.slice Ao43 t694.length co43)) (fun _ hk => hk.2) (.slice Ao44 t697.length co44)) (fun _ hk => ⟨hk.1.1.1.1.1.1.1, ⟨hk.1.1.1.1.1.1.2, ⟨hk.1.1.1.1.1.2, ⟨hk.1.1.1.1.2, ⟨hk.1.1.1.2, ⟨hk.1.1.2, hk.1.2⟩⟩⟩⟩⟩⟩)⟩
   have n2_ : Aside0 (Kd.R (Kd.int .u32) 35 (((w38.setCell ⟨gb701, 0, none⟩ (.bool t693)).setCell ⟨gb701, 1, none⟩ (.slice Ao43 t694.length co43)).setCell ⟨gb701, 2, none⟩ (.slice Ao44 t697.length co44)) w.heap.size (fun k_ => some k_ ≠ (.slice Ao22 t667.length co22 : Value).ownBlock ∧ some k_ ≠ (.slice Ao23 t670.length co23 : Value).ownBlock ∧ some k_ ≠ (.slice Ao29 t679.length co29 : Value).ownBlock ∧ some k_ ≠ (.slice Ao35 t685.length co35 : Value).ownBlock ∧ some k_ ≠ (.slice Ao36 t688.length co36 : Value).ownBlock ∧ some k_ ≠ (.slice Ao43 t694.length co43 : Value).ownBlock ∧ some k_ ≠ (.slice Ao44 t697.length co44 : Value).ownBlock) (.slice Ao28 t676.length co28) t676) := ⟨by (with_reducible repeat (first | apply Ra | apply Rn | apply Rd)); exact Kd.R_mono (Kd.R_far (p := ⟨gb701, 2, none⟩) (Kd.R_far (p := ⟨gb701, 1, none⟩) (Kd.R_far (p := ⟨gb701, 0, none⟩) (Kd.R_types HO678.out BK701.out (by decide)) (fun _ hk => hk.2) (.bool t693)) (fun _ hk => hk.2) (.slice Ao43 t694.length co43)) (fun _ hk => hk.2) (.slice Ao44 t697.length co44)) (fun _ hk => ⟨hk.1.1.1.1.1.1.2, ⟨hk.1.1.1.1.1.2, ⟨hk.1.1.1.1.1.1.1, ⟨hk.1.1.1.1.2, ⟨hk.1.1.1.2, ⟨hk.1.1.2, hk.1.2⟩⟩⟩⟩⟩⟩)⟩
   have n3_ : Aside0 (Kd.R (Kd.int .u32) 35 (((w38.setCell ⟨gb701, 0, none⟩ (.bool t693)).setCell ⟨gb701, 1, none⟩ (.slice Ao43 t694.length co43)).setCell ⟨gb701, 2, none⟩ (.slice Ao44 t697.length co44)) w.heap.size (fun k_ => some k_ ≠ (.slice Ao22 t667.length co22 : Value).ownBlock ∧ some k_ ≠ (.slice Ao23 t670.length co23 : Value).ownBlock ∧ some k_ ≠ (.slice Ao28 t676.length co28 : Value).ownBlock ∧ some k_ ≠ (.slice Ao35 t685.length co35 : Value).ownBlock ∧ some k_ ≠ (.slice Ao36 t688.length co36 : Value).ownBlock ∧ some k_ ≠ (.slice Ao43 t694.length co43 : Value).ownBlock ∧ some k_ ≠ (.slice Ao44 t697.length co44 : Value).ownBlock) (.slice Ao29 t679.length co29) t679) := ⟨by (with_reducible repeat (first | apply Ra | apply Rn | apply Rd)); exact Kd.R_mono (Kd.R_far (p := ⟨gb701, 2, none⟩) (Kd.R_far (p := ⟨gb701, 1, none⟩) (Kd.R_far (p := ⟨gb701, 0, none⟩) (Kd.R_types HO681.out BK701.out (by decide)) (fun _ hk => hk.2) (.bool t693)) (fun _ hk => hk.2) (.slice Ao43 t694.length co43)) (fun _ hk => hk.2) (.slice Ao44 t697.length co44)) (fun _ hk => ⟨hk.1.1.1.1.1.1.2, ⟨hk.1.1.1.1.1.2, ⟨hk.1.1.1.1.1.1.1, ⟨hk.1.1.1.1.2, ⟨hk.1.1.1.2, ⟨hk.1.1.2, hk.1.2⟩⟩⟩⟩⟩⟩)⟩
   have n4_ : Aside0 (Kd.R (Kd.int .u32) 35 (((w38.setCell ⟨gb701, 0, none⟩ (.bool t693)).setCell ⟨gb701, 1, none⟩ (.slice Ao43 t694.length co43)).setCell ⟨gb701, 2, none⟩ (.slice Ao44 t697.length co44)) w.heap.size (fun k_ => some k_ ≠ (.slice Ao22 t667.length co22 : Value).ownBlock ∧ some k_ ≠ (.slice Ao23 t670.length co23 : Value).ownBlock ∧ some k_ ≠ (.slice Ao28 t676.length co28 : Value).ownBlock ∧ some k_ ≠ (.slice Ao29 t679.length co29 : Value).ownBlock ∧ some k_ ≠ (.slice Ao36 t688.length co36 : Value).ownBlock ∧ some k_ ≠ (.slice Ao43 t694.length co43 : Value).ownBlock ∧ some k_ ≠ (.slice Ao44 t697.length co44 : Value).ownBlock) (.slice Ao35 t685.length co35) t685) := ⟨by (with_reducible repeat (first | apply Ra | apply Rn | apply Rd)); exact Kd.R_mono (Kd.R_far (p := ⟨gb701, 2, none⟩) (Kd.R_far (p := ⟨gb701, 1, none⟩) (Kd.R_far (p := ⟨gb701, 0, none⟩) (Kd.R_types HO687.out BK701.out (by decide)) (fun _ hk => hk.2) (.bool t693)) (fun _ hk => hk.2) (.slice Ao43 t694.length co43)) (fun _ hk => hk.2) (.slice Ao44 t697.length co44)) (fun _ hk => ⟨hk.1.1.1.1.1.1.2, ⟨hk.1.1.1.1.1.2, ⟨hk.1.1.1.1.2, ⟨hk.1.1.1.2, ⟨hk.1.1.1.1.1.1.1, ⟨hk.1.1.2, hk.1.2⟩⟩⟩⟩⟩⟩)⟩
   have n5_ : Aside0 (Kd.R (Kd.int .u32) 35 (((w38.setCell ⟨gb701, 0, none⟩ (.bool t693)).setCell ⟨gb701, 1, none⟩ (.slice Ao43 t694.length co43)).setCell ⟨gb701, 2, none⟩ (.slice Ao44 t697.length co44)) w.heap.size (fun k_ => some k_ ≠ (.slice Ao22 t667.length co22 : Value).ownBlock ∧ some k_ ≠ (.slice Ao23 t670.length co23 : Value).ownBlock ∧ some k_ ≠ (.slice Ao28 t676.length co28 : Value).ownBlock ∧ some k_ ≠ (.slice Ao29 t679.length co29 : Value).ownBlock ∧ some k_ ≠ (.slice Ao35 t685.length co35 : Value).ownBlock ∧ some k_ ≠ (.slice Ao43 t694.length co43 : Value).ownBlock ∧ some k_ ≠ (.slice Ao44 t697.length co44 : Value).ownBlock) (.slice Ao36 t688.length co36) t688) := ⟨by (with_reducible repeat (first | apply Ra | apply Rn | apply Rd)); exact Kd.R_mono (Kd.R_far (p := ⟨gb701, 2, none⟩) (Kd.R_far (p := ⟨gb701, 1, none⟩) (Kd.R_far (p := ⟨gb701, 0, none⟩) (Kd.R_types HO690.out BK701.out (by decide)) (fun _ hk => hk.2) (.bool t693)) (fun _ hk => hk.2) (.slice Ao43 t694.length co43)) (fun _ hk => hk.2) (.slice Ao44 t697.length co44)) (fun _ hk => ⟨hk.1.1.1.1.1.1.2, ⟨hk.1.1.1.1.1.2, ⟨hk.1.1.1.1.2, ⟨hk.1.1.1.2, ⟨hk.1.1.1.1.1.1.1, ⟨hk.1.1.2, hk.1.2⟩⟩⟩⟩⟩⟩)⟩
   have n6_ : Aside0 (Kd.R (Kd.int .u32) 35 (((w38.setCell ⟨gb701, 0, none⟩ (.bool t693)).setCell ⟨gb701, 1, none⟩ (.slice Ao43 t694.length co43)).setCell ⟨gb701, 2, none⟩ (.slice Ao44 t697.length co44)) w.heap.size (fun k_ => some k_ ≠ (.slice Ao22 t667.length co22 : Value).ownBlock ∧ some k_ ≠ (.slice Ao23 t670.length co23 : Value).ownBlock ∧ some k_ ≠ (.slice Ao28 t676.length co28 : Value).ownBlock ∧ some k_ ≠ (.slice Ao29 t679.length co29 : Value).ownBlock ∧ some k_ ≠ (.slice Ao35 t685.length co35 : Value).ownBlock ∧ some k_ ≠ (.slice Ao36 t688.length co36 : Value).ownBlock ∧ some k_ ≠ (.slice Ao44 t697.length co44 : Value).ownBlock) (.slice Ao43 t694.length co43) t694) := ⟨by (with_reducible repeat (first | apply Ra | apply Rn | apply Rd)); exact Kd.R_mono (Kd.R_far (p := ⟨gb701, 2, none⟩) (Kd.R_far (p := ⟨gb701, 1, none⟩) (Kd.R_far (p := ⟨gb701, 0, none⟩) (Kd.R_types HO696.out BK701.out (by decide)) (fun _ hk => hk.2) (.bool t693)) (fun _ hk => hk.2) (.slice Ao43 t694.length co43)) (fun _ hk => hk.2) (.slice Ao44 t697.length co44)) (fun _ hk => ⟨hk.1.1.1.1.1.1.2, ⟨hk.1.1.1.1.1.2, ⟨hk.1.1.1.1.2, ⟨hk.1.1.1.2, ⟨hk.1.1.2, ⟨hk.1.2, hk.1.1.1.1.1.1.1⟩⟩⟩⟩⟩⟩)⟩
   have n7_ : Aside0 (Kd.R (Kd.int .u32) 35 (((w38.setCell ⟨gb701, 0, none⟩ (.bool t693)).setCell ⟨gb701, 1, none⟩ (.slice Ao43 t694.length co43)).setCell ⟨gb701, 2, none⟩ (.slice Ao44 t697.length co44)) w.heap.size (fun k_ => some k_ ≠ (.slice Ao22 t667.length co22 : Value).ownBlock ∧ some k_ ≠ (.slice Ao23 t670.length co23 : Value).ownBlock ∧ some k_ ≠ (.slice Ao28 t676.length co28 : Value).ownBlock ∧ some k_ ≠ (.slice Ao29 t679.length co29 : Value).ownBlock ∧ some k_ ≠ (.slice Ao35 t685.length co35 : Value).ownBlock ∧ some k_ ≠ (.slice Ao36 t688.length co36 : Value).ownBlock ∧ some k_ ≠ (.slice Ao43 t694.length co43 : Value).ownBlock) (.slice Ao44 t697.length co44) t697) := ⟨by (with_reducible repeat (first | apply Ra | apply Rn | apply Rd)); exact Kd.R_mono (Kd.R_far (p := ⟨gb701, 2, none⟩) (Kd.R_far (p := ⟨gb701, 1, none⟩) (Kd.R_far (p := ⟨gb701, 0, none⟩) (Kd.R_types HO699.out BK701.out (by decide)) (fun _ hk => hk.2) (.bool t693)) (fun _ hk => hk.2) (.slice Ao43 t694.length co43)) (fun _ hk => hk.2) (.slice Ao44 t697.length co44)) (fun _ hk => ⟨hk.1.1.1.1.1.1.2, ⟨hk.1.1.1.1.1.2, ⟨hk.1.1.1.1.2, ⟨hk.1.1.1.2, ⟨hk.1.1.2, ⟨hk.1.2, hk.1.1.1.1.1.1.1⟩⟩⟩⟩⟩⟩)⟩
   have n8_ : Aside0 ((((w38.setCell ⟨gb701, 0, none⟩ (.bool t693)).setCell ⟨gb701, 1, none⟩ (.slice Ao43 t694.length co43)).setCell ⟨gb701, 2, none⟩ (.slice Ao44 t697.length co44)).heap[gb674]? = some (.cells #[.bool t666, .slice Ao22 t667.length co22, .slice Ao23 t670.length co23] 25 (0, 0))) := ⟨by (with_reducible repeat (first | refine blk_drewN ?_ _ | refine blk_drew ?_ | refine blk_alloc ?_ _)); refine blk_far ?_ NB674_701.out _; (with_reducible repeat (first | refine blk_drewN ?_ _ | refine blk_drew ?_ | refine blk_alloc ?_ _)); refine blk_far ?_ NB674_701.out _; (with_reducible repeat (first | refine blk_drewN ?_ _ | refine blk_drew ?_ | refine blk_alloc ?_ _)); refine blk_far ?_ NB674_701.out _; (with_reducible repeat (first | refine blk_drewN ?_ _ | refine blk_drew ?_ | refine blk_alloc ?_ _)); exact BK674.out⟩
   have n9_ : Aside0 ((((w38.setCell ⟨gb701, 0, none⟩ (.bool t693)).setCell ⟨gb701, 1, none⟩ (.slice Ao43 t694.length co43)).setCell ⟨gb701, 2, none⟩ (.slice Ao44 t697.length co44)).heap[gb683]? = some (.cells #[.bool t675, .slice Ao28 t676.length co28, .slice Ao29 t679.length co29] 25 (0, 0))) := ⟨by (with_reducible repeat (first | refine blk_drewN ?_ _ | refine blk_drew ?_ | refine blk_alloc ?_ _)); refine blk_far ?_ NB683_701.out _; (with_reducible repeat (first | refine blk_drewN ?_ _ | refine blk_drew ?_ | refine blk_alloc ?_ _)); refine blk_far ?_ NB683_701.out _; (with_reducible repeat (first | refine blk_drewN ?_ _ | refine blk_drew ?_ | refine blk_alloc ?_ _)); refine blk_far ?_ NB683_701.out _; (with_reducible repeat (first | refine blk_drewN ?_ _ | refine blk_drew ?_ | refine blk_alloc ?_ _)); exact BK683.out⟩
   have n10_ : Aside0 ((((w38.setCell ⟨gb701, 0, none⟩ (.bool t693)).setCell ⟨gb701, 1, none⟩ (.slice Ao43 t694.length co43)).setCell ⟨gb701, 2, none⟩ (.slice Ao44 t697.length co44)).heap[gb692]? = some (.cells #[.bool t684, .slice Ao35 t685.length co35, .slice Ao36 t688.length co36] 25 (0, 0))) := ⟨by (with_reducible repeat (first | refine blk_drewN ?_ _ | refine blk_drew ?_ | refine blk_alloc ?_ _)); refine blk_far ?_ NB692_701.out _; (with_reducible repeat (first | refine blk_drewN ?_ _ | refine blk_drew ?_ | refine blk_alloc ?_ _)); refine blk_far ?_ NB692_701.out _; (with_reducible repeat (first | refine blk_drewN ?_ _ | refine blk_drew ?_ | refine blk_alloc ?_ _)); refine blk_far ?_ NB692_701.out _; (with_reducible repeat (first | refine blk_drewN ?_ _ | refine blk_drew ?_ | refine blk_alloc ?_ _)); exact BK692.out⟩
   have n11_ : Aside0 ((((w38.setCell ⟨gb701, 0, none⟩ (.bool t693)).setCell ⟨gb701, 1, none⟩ (.slice Ao43 t694.length co43)).setCell ⟨gb701, 2, none⟩ (.slice Ao44 t697.length co44)).heap[gb701]? = some (.cells #[.bool t693, .slice Ao43 t694.length co43, .slice Ao44 t697.length co44] 25 (0, 0))) := ⟨by (with_reducible repeat (first | refine blk_drewN ?_ _ | refine blk_drew ?_ | refine blk_alloc ?_ _)); refine blk_put (cs := #[.bool t693, .slice Ao43 t694.length co43, .slice none 0 0]) ?_ 2 _ rfl; (with_reducible repeat (first | refine blk_drewN ?_ _ | refine blk_drew ?_ | refine blk_alloc ?_ _)); refine blk_put (cs := #[.bool t693, .slice none 0 0, .slice none 0 0]) ?_ 1 _ rfl; (with_reducible repeat (first | refine blk_drewN ?_ _ | refine blk_drew ?_ | refine blk_alloc ?_ _)); refine blk_put (cs := #[.bool false, .slice none 0 0, .slice none 0 0]) ?_ 0 _ rfl; (with_reducible repeat (first | refine blk_drewN ?_ _ | refine blk_drew ?_ | refine blk_alloc ?_ _)); exact BK701.out⟩
   have n12_ : Aside0 (Below w.heap.size w (((w38.setCell ⟨gb701, 0, none⟩ (.bool t693)).setCell ⟨gb701, 1, none⟩ (.slice Ao43 t694.length co43)).setCell ⟨gb701, 2, none⟩ (.slice Ao44 t697.length co44))) := ⟨by repeat (first | with_reducible exact HB.out | apply ba | apply bn | apply b1 | refine below_set ?_ GE674.out | refine below_set ?_ GE683.out | refine below_set ?_ GE692.out | refine below_set ?_ GE701.out)⟩
   (try clear HO669)
   (try clear HO672)
   (try clear HO678)
   (try clear HO681)
   (try clear HO687)
   (try clear HO690)
   (try clear HO696)
   (try clear HO699)
   (try clear BK674)
   (try clear BK683)
   (try clear BK692)
   (try clear BK701)
   (try clear HB)
   generalize (((w38.setCell ⟨gb701, 0, none⟩ (.bool t693)).setCell ⟨gb701, 1, none⟩ (.slice Ao43 t694.length co43)).setCell ⟨gb701, 2, none⟩ (.slice Ao44 t697.length co44)) = w45 at n0_ n1_ n2_ n3_ n4_ n5_ n6_ n7_ n8_ n9_ n10_ n11_ n12_ ⊢
   have HO669 := n0_
   have HO672 := n1_
   have HO678 := n2_
   have HO681 := n3_
   have HO687 := n4_
   have HO690 := n5_
   have HO696 := n6_
   have HO699 := n7_
   have BK674 := n8_
   have BK683 := n9_
   have BK692 := n10_
   have BK701 := n11_
   have HB := n12_
   clear n0_ n1_ n2_ n3_ n4_ n5_ n6_ n7_ n8_ n9_ n10_ n11_ n12_
   have n0_ := Aside0.mk (Rd HO669.out)
   have n1_ := Aside0.mk (Rd HO672.out)
   have n2_ := Aside0.mk (Rd HO678.out)
   have n3_ := Aside0.mk (Rd HO681.out)
   have n4_ := Aside0.mk (Rd HO687.out)
   have n5_ := Aside0.mk (Rd HO690.out)
   have n6_ := Aside0.mk (Rd HO696.out)
   have n7_ := Aside0.mk (Rd HO699.out)
   have n8_ := Aside0.mk (blk_drew BK674.out)
   have n9_ := Aside0.mk (blk_drew BK683.out)
   have n10_ := Aside0.mk (blk_drew BK692.out)
   have n11_ := Aside0.mk (blk_drew BK701.out)
   have n12_ := Aside0.mk (b1 HB.out)
   clear HO669
   clear HO672
   clear HO678
   clear HO681
   clear HO687
   clear HO690
   clear HO696
   clear HO699
   clear BK674
   clear BK683
   clear BK692
   clear BK701
   clear HB
   have HO669 := n0_
   have HO672 := n1_
   have HO678 := n2_
   have HO681 := n3_
   have HO687 := n4_
   have HO690 := n5_
   have HO696 := n6_
   have HO699 := n7_
   have BK674 := n8_
   have BK683 := n9_
   have BK692 := n10_
   have BK701 := n11_
   have HB := n12_
   clear n0_ n1_ n2_ n3_ n4_ n5_ n6_ n7_ n8_ n9_ n10_ n11_ n12_
   refine start_ (n := 35) (S := fun w' => w'.cell? ⟨gb674, 0, none⟩ = some (.bool t666) ∧ w'.cell? ⟨gb674, 1, none⟩ = some (.slice Ao22 t667.length co22) ∧ w'.cell? ⟨gb674, 2, none⟩ = some (.slice Ao23 t670.length co23) ∧ w'.cell? ⟨gb683, 0, none⟩ = some (.bool t675) ∧ w'.cell? ⟨gb683, 1, none⟩ = some (.slice Ao28 t676.length co28) ∧ w'.cell? ⟨gb683, 2, none⟩ = some (.slice Ao29 t679.length co29)) (ds := []) #[false, false, false, false, false, false, false, false, false, false, false, false, false, false, false, false, false, false, false, false, false, false, false, false, false, false, false, false, false, false, false, false, false, false, false] (by kernel_rfl) rfl rfl ⟨(blk_cell BK674.out 0).trans rfl, (blk_cell BK674.out 1).trans rfl, (blk_cell BK674.out 2).trans rfl, (blk_cell BK683.out 0).trans rfl, (blk_cell BK683.out 1).trans rfl, (blk_cell BK683.out 2).trans rfl⟩ (fun hHeld => ?_); refine with_tabW penumbralaw04_fixed.tab5 penumbralaw04_fixed.bits5 (fun HT_ HW_ => ?_)
   generalize w45.drew = w46 at HO669 HO672 HO678 HO681 HO687 HO690 HO696 HO699 BK674 BK683 BK692 BK701 HB hHeld ⊢
   refine pure_ (i := 0) (N := some 25) (v := ?_) (a' := ?_) #[true, false, false, false, false, false, false, false, false, false, false, false, false, false, false, false, false, false, false, false, false, false, false, false, false, false, false, false, false, false, false, false, false, false, false] rfl rfl (any_of HT_.out (by kernel_rfl)) (fun _ _ _ h => h) (Or.inl ⟨by rfl, ?_⟩) ?_ ?_
   rotate_left
   ·intro w'
    go_simp
    with_reducible rfl
   rotate_left
   ·simp only [Act.put, s0, s1, s2, i64_w, i32_w]
    rfl
   refine pure_ (i := 1) (N := some 26) (v := ?_) (a' := ?_) #[true, true, false, false, false, false, false, false, false, false, false, false, false, false, false, false, false, false, false, false, false, false, false, false, false, false, false, false, false, false, false, false, false, false, false] rfl rfl (any_of HT_.out (by kernel_rfl)) (fun _ _ _ h => h) (Or.inl ⟨by rfl, ?_⟩) ?_ ?_
   rotate_left
   ·intro w'
    go_simp
    with_reducible rfl
   rotate_left
   ·simp only [Act.put, s0, s1, s2, i64_w, i32_w]
    rfl
   refine pure_ (i := 2) (N := some 27) (v := ?_) (a' := ?_) #[true, true, true, false, false, false, false, false, false, false, false, false, false, false, false, false, false, false, false, false, false, false, false, false, false, false, false, false, false, false, false, false, false, false, false] rfl rfl (any_of HT_.out (by kernel_rfl)) (fun _ _ _ h => h) (Or.inl ⟨by rfl, ?_⟩) ?_ ?_
   rotate_left
   ·intro w'
    go_simp
    with_reducible rfl
   rotate_left
   ·simp only [Act.put, s0, s1, s2, i64_w, i32_w]
    rfl
   refine take_ (i := 3) (N := some 28) (v := ?_) (a' := ?_) #[true, true, true, true, false, false, false, false, false, false, false, false, false, false, false, false, false, false, false, false, false, false, false, false, false, false, false, false, false, false, false, false, false, false, false] rfl rfl (take_ofW HT_.out HW_.out (by kernel_rfl)) (fun _ _ _ h => h) (Or.inl ⟨by rfl, ?_⟩) hHeld ?_ ?_
   rotate_left
   ·rintro w' ⟨s0, s1, s2, s3, s4, s5⟩
    go_simp
    with_reducible rfl
   rotate_left
   ·simp only [Act.put, s0, s1, s2, i64_w, i32_w]
    rfl
   refine one_ (i := 4) (N := some 29) #[true, true, true, true, true, false, false, false, false, false, false, false, false, false, false, false, false, false, false, false, false, false, false, false, false, false, false, false, false, false, false, false, false, false, false] rfl rfl (one_of HT_.out (by kernel_rfl)) (by decide) (fun K hK => ?_)
   refine goes_ Tryd.func23 (by kernel_rfl) rfl #[.int .i64 1, .int .i64 8] (by rfl) rfl rfl (by (try simp only [List.map_toArray, List.map_cons, List.map_nil]); first | done | rfl) ?_
   with_reducible refine (penumbraref03_Of.calls k 1 8 t702 t703 t706 _ A6.out).mono ?_
   rintro e w47 ⟨v704, v707, rfl, ho0, ho1, hb⟩
   refine ⟨_, rfl, ?_⟩
   have n0_ := Aside0.mk (Kd.R_mono (Kd.R_told (Kd.R_told (Kd.R_old (by (with_reducible repeat (first | apply Ra | apply Rn | apply Rd)); exact HO669.out) hb) (Kd.R_base ho0)) (Kd.R_base ho1)) (fun _ h_ => h_.1))
   have n1_ := Aside0.mk (Kd.R_mono (Kd.R_told (Kd.R_told (Kd.R_old (by (with_reducible repeat (first | apply Ra | apply Rn | apply Rd)); exact HO672.out) hb) (Kd.R_base ho0)) (Kd.R_base ho1)) (fun _ h_ => h_.1))
   have n2_ := Aside0.mk (Kd.R_mono (Kd.R_told (Kd.R_told (Kd.R_old (by (with_reducible repeat (first | apply Ra | apply Rn | apply Rd)); exact HO678.out) hb) (Kd.R_base ho0)) (Kd.R_base ho1)) (fun _ h_ => h_.1))
   have n3_ := Aside0.mk (Kd.R_mono (Kd.R_told (Kd.R_told (Kd.R_old (by (with_reducible repeat (first | apply Ra | apply Rn | apply Rd)); exact HO681.out) hb) (Kd.R_base ho0)) (Kd.R_base ho1)) (fun _ h_ => h_.1))
   have n4_ := Aside0.mk (Kd.R_mono (Kd.R_told (Kd.R_told (Kd.R_old (by (with_reducible repeat (first | apply Ra | apply Rn | apply Rd)); exact HO687.out) hb) (Kd.R_base ho0)) (Kd.R_base ho1)) (fun _ h_ => h_.1))
   have n5_ := Aside0.mk (Kd.R_mono (Kd.R_told (Kd.R_told (Kd.R_old (by (with_reducible repeat (first | apply Ra | apply Rn | apply Rd)); exact HO690.out) hb) (Kd.R_base ho0)) (Kd.R_base ho1)) (fun _ h_ => h_.1))
   have n6_ := Aside0.mk (Kd.R_mono (Kd.R_told (Kd.R_told (Kd.R_old (by (with_reducible repeat (first | apply Ra | apply Rn | apply Rd)); exact HO696.out) hb) (Kd.R_base ho0)) (Kd.R_base ho1)) (fun _ h_ => h_.1))
   have n7_ := Aside0.mk (Kd.R_mono (Kd.R_told (Kd.R_told (Kd.R_old (by (with_reducible repeat (first | apply Ra | apply Rn | apply Rd)); exact HO699.out) hb) (Kd.R_base ho0)) (Kd.R_base ho1)) (fun _ h_ => h_.1))
   have n8_ := Aside0.mk (Kd.R_lower (Kd.R_new' (Kd.R_new' (Kd.R_new' (Kd.R_new' (Kd.R_new' (Kd.R_new' (Kd.R_new' (Kd.R_new' ho0 (Kd.R_lt (by (with_reducible repeat (first | apply Ra | apply Rn | apply Rd)); exact HO669.out))) (Kd.R_lt (by (with_reducible repeat (first | apply Ra | apply Rn | apply Rd)); exact HO672.out))) (Kd.R_lt (by (with_reducible repeat (first | apply Ra | apply Rn | apply Rd)); exact HO678.out))) (Kd.R_lt (by (with_reducible repeat (first | apply Ra | apply Rn | apply Rd)); exact HO681.out))) (Kd.R_lt (by (with_reducible repeat (first | apply Ra | apply Rn | apply Rd)); exact HO687.out))) (Kd.R_lt (by (with_reducible repeat (first | apply Ra | apply Rn | apply Rd)); exact HO690.out))) (Kd.R_lt (by (with_reducible repeat (first | apply Ra | apply Rn | apply Rd)); exact HO696.out))) (Kd.R_lt (by (with_reducible repeat (first | apply Ra | apply Rn | apply Rd)); exact HO699.out))) (below_size (by repeat (first | with_reducible exact HB.out | apply ba | apply bn | apply b1 | refine below_set ?_ GE674.out | refine below_set ?_ GE683.out | refine below_set ?_ GE692.out | refine below_set ?_ GE701.out))))
   have n9_ := Aside0.mk (Kd.R_lower (Kd.R_new' (Kd.R_new' (Kd.R_new' (Kd.R_new' (Kd.R_new' (Kd.R_new' (Kd.R_new' (Kd.R_new' ho1 (Kd.R_lt (by (with_reducible repeat (first | apply Ra | apply Rn | apply Rd)); exact HO669.out))) (Kd.R_lt (by (with_reducible repeat (first | apply Ra | apply Rn | apply Rd)); exact HO672.out))) (Kd.R_lt (by (with_reducible repeat (first | apply Ra | apply Rn | apply Rd)); exact HO678.out))) (Kd.R_lt (by (with_reducible repeat (first | apply Ra | apply Rn | apply Rd)); exact HO681.out))) (Kd.R_lt (by (with_reducible repeat (first | apply Ra | apply Rn | apply Rd)); exact HO687.out))) (Kd.R_lt (by (with_reducible repeat (first | apply Ra | apply Rn | apply Rd)); exact HO690.out))) (Kd.R_lt (by (with_reducible repeat (first | apply Ra | apply Rn | apply Rd)); exact HO696.out))) (Kd.R_lt (by (with_reducible repeat (first | apply Ra | apply Rn | apply Rd)); exact HO699.out))) (below_size (by repeat (first | with_reducible exact HB.out | apply ba | apply bn | apply b1 | refine below_set ?_ GE674.out | refine below_set ?_ GE683.out | refine below_set ?_ GE692.out | refine below_set ?_ GE701.out))))
   have n10_ := Aside0.mk (blk_below (g := gb674) (o := .cells #[.bool t666, .slice Ao22 t667.length co22, .slice Ao23 t670.length co23] 25 (0, 0)) (by (with_reducible repeat (first | refine blk_drewN ?_ _ | refine blk_drew ?_ | refine blk_alloc ?_ _)); exact BK674.out) hb)
   have n11_ := Aside0.mk (blk_below (g := gb683) (o := .cells #[.bool t675, .slice Ao28 t676.length co28, .slice Ao29 t679.length co29] 25 (0, 0)) (by (with_reducible repeat (first | refine blk_drewN ?_ _ | refine blk_drew ?_ | refine blk_alloc ?_ _)); exact BK683.out) hb)
   have n12_ := Aside0.mk (blk_below (g := gb692) (o := .cells #[.bool t684, .slice Ao35 t685.length co35, .slice Ao36 t688.length co36] 25 (0, 0)) (by (with_reducible repeat (first | refine blk_drewN ?_ _ | refine blk_drew ?_ | refine blk_alloc ?_ _)); exact BK692.out) hb)
   have n13_ := Aside0.mk (blk_below (g := gb701) (o := .cells #[.bool t693, .slice Ao43 t694.length co43, .slice Ao44 t697.length co44] 25 (0, 0)) (by (with_reducible repeat (first | refine blk_drewN ?_ _ | refine blk_drew ?_ | refine blk_alloc ?_ _)); exact BK701.out) hb)
   have n14_ := Aside0.mk (below_step (by repeat (first | with_reducible exact HB.out | apply ba | apply bn | apply b1 | refine below_set ?_ GE674.out | refine below_set ?_ GE683.out | refine below_set ?_ GE692.out | refine below_set ?_ GE701.out)) hb)
   clear HO669
   clear HO672
   clear HO678
   clear HO681
   clear HO687
   clear HO690
   clear HO696
   clear HO699
   clear BK674
   clear BK683
   clear BK692
   clear BK701
   clear HB
   have HO669 := n0_
   have HO672 := n1_
   have HO678 := n2_
   have HO681 := n3_
   have HO687 := n4_
   have HO690 := n5_
   have HO696 := n6_
   have HO699 := n7_
   have HO705 := n8_
   have HO708 := n9_
   have BK674 := n10_
   have BK683 := n11_
   have BK692 := n12_
   have BK701 := n13_
   have HB := n14_
   clear n0_ n1_ n2_ n3_ n4_ n5_ n6_ n7_ n8_ n9_ n10_ n11_ n12_ n13_ n14_
   (try clear hb)
   (try clear hb2)
   (try clear hk)
   (try clear hi)
   (try clear ho0)
   (try clear ho1)
   obtain ⟨Ao48, co48, eo48⟩ := Kd.R_slice HO705.out
   (first | subst eo48 | (injection eo48 with f1_ f2_ f3_; have f4_ := f1_.symm; have f5_ := f3_.symm; clear f1_ f2_ f3_; subst f4_; subst f5_))
   obtain ⟨Ao49, co49, eo49⟩ := Kd.R_slice HO708.out
   (first | subst eo49 | (injection eo49 with f1_ f2_ f3_; have f4_ := f1_.symm; have f5_ := f3_.symm; clear f1_ f2_ f3_; subst f4_; subst f5_))
   refine hK.out _ _ ⟨(blk_cell BK674.out 0).trans rfl, (blk_cell BK674.out 1).trans rfl, (blk_cell BK674.out 2).trans rfl, (blk_cell BK683.out 0).trans rfl, (blk_cell BK683.out 1).trans rfl, (blk_cell BK683.out 2).trans rfl⟩ (fun hHeld => ?_)
   clear hK K
   refine norm_ (a' := ?_) ?_ ?_
   rotate_left
   ·show Act.put _ (some 29) _ = _
    simp only [Act.put, s0, s1, s2, i64_w, i32_w]
    rfl
   refine one_ (i := 5) (N := some 30) #[true, true, true, true, true, true, false, false, false, false, false, false, false, false, false, false, false, false, false, false, false, false, false, false, false, false, false, false, false, false, false, false, false, false, false] rfl rfl (one_of HT_.out (by kernel_rfl)) (by decide) (fun K hK => ?_)
   refine goes_ Tryd.func11 (by kernel_rfl) rfl #[.agg #[.bool t666, .slice Ao22 t667.length co22, .slice Ao23 t670.length co23], .agg #[.bool t702, .slice Ao48 t703.length co48, .slice Ao49 t706.length co49]] (by rfl) rfl rfl (by (try simp only [List.map_toArray, List.map_cons, List.map_nil]); first | done | rfl) ?_
   with_reducible refine (penumbraref03_Is.calls k t666 _ _ t667 _ _ t670 t702 _ _ t703 _ _ t706 true _ ?side1 ?side2 ?side3 ?side4 ?side5 ?side6 ?side7 ?side8 A7.out).mono ?_
   (case side1 => repeat (first | exact (Kd.R_reads' HO669.out).2.2 | (with_reducible refine Kd.C_alloc ?_ _) | (with_reducible refine Kd.C_drewN ?_ _) | (with_reducible refine Kd.C_drew ?_)))
   (case side2 => exact (Kd.R_reads' HO669.out).2.1)
   (case side3 => repeat (first | exact (Kd.R_reads' HO672.out).2.2 | (with_reducible refine Kd.C_alloc ?_ _) | (with_reducible refine Kd.C_drewN ?_ _) | (with_reducible refine Kd.C_drew ?_)))
   (case side4 => exact (Kd.R_reads' HO672.out).2.1)
   (case side5 => repeat (first | exact (Kd.R_reads' HO705.out).2.2 | (with_reducible refine Kd.C_alloc ?_ _) | (with_reducible refine Kd.C_drewN ?_ _) | (with_reducible refine Kd.C_drew ?_)))
   (case side6 => exact (Kd.R_reads' HO705.out).2.1)
   (case side7 => repeat (first | exact (Kd.R_reads' HO708.out).2.2 | (with_reducible refine Kd.C_alloc ?_ _) | (with_reducible refine Kd.C_drewN ?_ _) | (with_reducible refine Kd.C_drew ?_)))
   (case side8 => exact (Kd.R_reads' HO708.out).2.1)
   rintro e w50 ⟨rfl, hb⟩
   refine ⟨_, rfl, ?_⟩
   have n0_ := Aside0.mk (Kd.R_below (by (with_reducible repeat (first | apply Ra | apply Rn | apply Rd)); exact HO669.out) hb)
   have n1_ := Aside0.mk (Kd.R_below (by (with_reducible repeat (first | apply Ra | apply Rn | apply Rd)); exact HO672.out) hb)
   have n2_ := Aside0.mk (Kd.R_below (by (with_reducible repeat (first | apply Ra | apply Rn | apply Rd)); exact HO678.out) hb)
   have n3_ := Aside0.mk (Kd.R_below (by (with_reducible repeat (first | apply Ra | apply Rn | apply Rd)); exact HO681.out) hb)
   have n4_ := Aside0.mk (Kd.R_below (by (with_reducible repeat (first | apply Ra | apply Rn | apply Rd)); exact HO687.out) hb)
   have n5_ := Aside0.mk (Kd.R_below (by (with_reducible repeat (first | apply Ra | apply Rn | apply Rd)); exact HO690.out) hb)
   have n6_ := Aside0.mk (Kd.R_below (by (with_reducible repeat (first | apply Ra | apply Rn | apply Rd)); exact HO696.out) hb)
   have n7_ := Aside0.mk (Kd.R_below (by (with_reducible repeat (first | apply Ra | apply Rn | apply Rd)); exact HO699.out) hb)
   have n8_ := Aside0.mk (Kd.R_below (by (with_reducible repeat (first | apply Ra | apply Rn | apply Rd)); exact HO705.out) hb)
   have n9_ := Aside0.mk (Kd.R_below (by (with_reducible repeat (first | apply Ra | apply Rn | apply Rd)); exact HO708.out) hb)
   have n10_ := Aside0.mk (blk_below (g := gb674) (o := .cells #[.bool t666, .slice Ao22 t667.length co22, .slice Ao23 t670.length co23] 25 (0, 0)) (by (with_reducible repeat (first | refine blk_drewN ?_ _ | refine blk_drew ?_ | refine blk_alloc ?_ _)); exact BK674.out) hb)
   have n11_ := Aside0.mk (blk_below (g := gb683) (o := .cells #[.bool t675, .slice Ao28 t676.length co28, .slice Ao29 t679.length co29] 25 (0, 0)) (by (with_reducible repeat (first | refine blk_drewN ?_ _ | refine blk_drew ?_ | refine blk_alloc ?_ _)); exact BK683.out) hb)
   have n12_ := Aside0.mk (blk_below (g := gb692) (o := .cells #[.bool t684, .slice Ao35 t685.length co35, .slice Ao36 t688.length co36] 25 (0, 0)) (by (with_reducible repeat (first | refine blk_drewN ?_ _ | refine blk_drew ?_ | refine blk_alloc ?_ _)); exact BK692.out) hb)
   have n13_ := Aside0.mk (blk_below (g := gb701) (o := .cells #[.bool t693, .slice Ao43 t694.length co43, .slice Ao44 t697.length co44] 25 (0, 0)) (by (with_reducible repeat (first | refine blk_drewN ?_ _ | refine blk_drew ?_ | refine blk_alloc ?_ _)); exact BK701.out) hb)
   have n14_ := Aside0.mk (below_step (by repeat (first | with_reducible exact HB.out | apply ba | apply bn | apply b1 | refine below_set ?_ GE674.out | refine below_set ?_ GE683.out | refine below_set ?_ GE692.out | refine below_set ?_ GE701.out)) hb)
   clear HO669
   clear HO672
   clear HO678
   clear HO681
   clear HO687
   clear HO690
   clear HO696
   clear HO699
   clear HO705
   clear HO708
   clear BK674
   clear BK683
   clear BK692
   clear BK701
   clear HB
   have HO669 := n0_
   have HO672 := n1_
   have HO678 := n2_
   have HO681 := n3_
   have HO687 := n4_
   have HO690 := n5_
   have HO696 := n6_
   have HO699 := n7_
   have HO705 := n8_
   have HO708 := n9_
   have BK674 := n10_
   have BK683 := n11_
   have BK692 := n12_
   have BK701 := n13_
   have HB := n14_
   clear n0_ n1_ n2_ n3_ n4_ n5_ n6_ n7_ n8_ n9_ n10_ n11_ n12_ n13_ n14_
   (try clear hb)
   (try clear hb2)
   (try clear hk)
   (try clear hi)
   refine hK.out _ _ ⟨(blk_cell BK674.out 0).trans rfl, (blk_cell BK674.out 1).trans rfl, (blk_cell BK674.out 2).trans rfl, (blk_cell BK683.out 0).trans rfl, (blk_cell BK683.out 1).trans rfl, (blk_cell BK683.out 2).trans rfl⟩ (fun hHeld => ?_)
   clear hK K
   refine norm_ (a' := ?_) ?_ ?_
   rotate_left
   ·show Act.put _ (some 30) _ = _
    simp only [Act.put, s0, s1, s2, i64_w, i32_w]
    rfl
   refine pure_ (i := 6) (N := some 31) (v := ?_) (a' := ?_) #[true, true, true, true, true, true, true, false, false, false, false, false, false, false, false, false, false, false, false, false, false, false, false, false, false, false, false, false, false, false, false, false, false, false, false] rfl rfl (any_of HT_.out (by kernel_rfl)) (fun _ _ _ h => h) (Or.inl ⟨by rfl, ?_⟩) ?_ ?_
   rotate_left
   ·intro w'
    go_simp
    with_reducible rfl
   rotate_left
   ·simp only [Act.put, s0, s1, s2, i64_w, i32_w]
    rfl
   refine pure_ (i := 7) (N := some 32) (v := ?_) (a' := ?_) #[true, true, true, true, true, true, true, true, false, false, false, false, false, false, false, false, false, false, false, false, false, false, false, false, false, false, false, false, false, false, false, false, false, false, false] rfl rfl (any_of HT_.out (by kernel_rfl)) (fun _ _ _ h => h) (Or.inl ⟨by rfl, ?_⟩) ?_ ?_
   rotate_left
   ·intro w'
    go_simp
    with_reducible rfl
   rotate_left
   ·simp only [Act.put, s0, s1, s2, i64_w, i32_w]
    rfl
   refine pure_ (i := 8) (N := some 33) (v := ?_) (a' := ?_) #[true, true, true, true, true, true, true, true, true, false, false, false, false, false, false, false, false, false, false, false, false, false, false, false, false, false, false, false, false, false, false, false, false, false, false] rfl rfl (any_of HT_.out (by kernel_rfl)) (fun _ _ _ h => h) (Or.inl ⟨by rfl, ?_⟩) ?_ ?_
   rotate_left
   ·intro w'
    go_simp
    with_reducible rfl
   rotate_left
   ·simp only [Act.put, s0, s1, s2, i64_w, i32_w]
    rfl
   refine pure_ (i := 9) (N := some 34) (v := ?_) (a' := ?_) #[true, true, true, true, true, true, true, true, true, true, false, false, false, false, false, false, false, false, false, false, false, false, false, false, false, false, false, false, false, false, false, false, false, false, false] rfl rfl (any_of HT_.out (by kernel_rfl)) (fun _ _ _ h => h) (Or.inl ⟨by rfl, ?_⟩) ?_ ?_
   rotate_left
   ·intro w'
    go_simp
    with_reducible rfl
   rotate_left
   ·simp only [Act.put, s0, s1, s2, i64_w, i32_w]
    rfl
   refine pure_ (i := 10) (N := some 35) (v := ?_) (a' := ?_) #[true, true, true, true, true, true, true, true, true, true, true, false, false, false, false, false, false, false, false, false, false, false, false, false, false, false, false, false, false, false, false, false, false, false, false] rfl rfl (any_of HT_.out (by kernel_rfl)) (fun _ _ _ h => h) (Or.inl ⟨by rfl, ?_⟩) ?_ ?_
   rotate_left
   ·intro w'
    go_simp
    with_reducible rfl
   rotate_left
   ·simp only [Act.put, s0, s1, s2, i64_w, i32_w]
    rfl
   refine pure_ (i := 11) (N := some 36) (v := ?_) (a' := ?_) #[true, true, true, true, true, true, true, true, true, true, true, true, false, false, false, false, false, false, false, false, false, false, false, false, false, false, false, false, false, false, false, false, false, false, false] rfl rfl (any_of HT_.out (by kernel_rfl)) (fun _ _ _ h => h) (Or.inl ⟨by rfl, ?_⟩) ?_ ?_
   rotate_left
   ·intro w'
    go_simp
    with_reducible rfl
   rotate_left
   ·simp only [Act.put, s0, s1, s2, i64_w, i32_w]
    rfl
   refine take_ (i := 12) (N := some 37) (v := ?_) (a' := ?_) #[true, true, true, true, true, true, true, true, true, true, true, true, true, false, false, false, false, false, false, false, false, false, false, false, false, false, false, false, false, false, false, false, false, false, false] rfl rfl (take_ofW HT_.out HW_.out (by kernel_rfl)) (fun _ _ _ h => h) (Or.inl ⟨by rfl, ?_⟩) hHeld ?_ ?_
   rotate_left
   ·rintro w' ⟨s0, s1, s2, s3, s4, s5⟩
    go_simp
    with_reducible rfl
   rotate_left
   ·simp only [Act.put, s0, s1, s2, i64_w, i32_w]
    rfl
   refine one_ (i := 13) (N := some 38) #[true, true, true, true, true, true, true, true, true, true, true, true, true, true, false, false, false, false, false, false, false, false, false, false, false, false, false, false, false, false, false, false, false, false, false] rfl rfl (one_of HT_.out (by kernel_rfl)) (by decide) (fun K hK => ?_)
   refine goes_ Tryd.func23 (by kernel_rfl) rfl #[.int .i64 1, .int .i64 2] (by rfl) rfl rfl (by (try simp only [List.map_toArray, List.map_cons, List.map_nil]); first | done | rfl) ?_
   with_reducible refine (penumbraref03_Of.calls k 1 2 t710 t711 t714 _ A10.out).mono ?_
   rintro e w51 ⟨v712, v715, rfl, ho0, ho1, hb⟩
   refine ⟨_, rfl, ?_⟩
   have n0_ := Aside0.mk (Kd.R_mono (Kd.R_told (Kd.R_told (Kd.R_old (by (with_reducible repeat (first | apply Ra | apply Rn | apply Rd)); exact HO669.out) hb) (Kd.R_base ho0)) (Kd.R_base ho1)) (fun _ h_ => h_.1))
   have n1_ := Aside0.mk (Kd.R_mono (Kd.R_told (Kd.R_told (Kd.R_old (by (with_reducible repeat (first | apply Ra | apply Rn | apply Rd)); exact HO672.out) hb) (Kd.R_base ho0)) (Kd.R_base ho1)) (fun _ h_ => h_.1))
   have n2_ := Aside0.mk (Kd.R_mono (Kd.R_told (Kd.R_told (Kd.R_old (by (with_reducible repeat (first | apply Ra | apply Rn | apply Rd)); exact HO678.out) hb) (Kd.R_base ho0)) (Kd.R_base ho1)) (fun _ h_ => h_.1))
   have n3_ := Aside0.mk (Kd.R_mono (Kd.R_told (Kd.R_told (Kd.R_old (by (with_reducible repeat (first | apply Ra | apply Rn | apply Rd)); exact HO681.out) hb) (Kd.R_base ho0)) (Kd.R_base ho1)) (fun _ h_ => h_.1))
   have n4_ := Aside0.mk (Kd.R_mono (Kd.R_told (Kd.R_told (Kd.R_old (by (with_reducible repeat (first | apply Ra | apply Rn | apply Rd)); exact HO687.out) hb) (Kd.R_base ho0)) (Kd.R_base ho1)) (fun _ h_ => h_.1))
   have n5_ := Aside0.mk (Kd.R_mono (Kd.R_told (Kd.R_told (Kd.R_old (by (with_reducible repeat (first | apply Ra | apply Rn | apply Rd)); exact HO690.out) hb) (Kd.R_base ho0)) (Kd.R_base ho1)) (fun _ h_ => h_.1))
   have n6_ := Aside0.mk (Kd.R_mono (Kd.R_told (Kd.R_told (Kd.R_old (by (with_reducible repeat (first | apply Ra | apply Rn | apply Rd)); exact HO696.out) hb) (Kd.R_base ho0)) (Kd.R_base ho1)) (fun _ h_ => h_.1))
   have n7_ := Aside0.mk (Kd.R_mono (Kd.R_told (Kd.R_told (Kd.R_old (by (with_reducible repeat (first | apply Ra | apply Rn | apply Rd)); exact HO699.out) hb) (Kd.R_base ho0)) (Kd.R_base ho1)) (fun _ h_ => h_.1))
   have n8_ := Aside0.mk (Kd.R_mono (Kd.R_told (Kd.R_told (Kd.R_old (by (with_reducible repeat (first | apply Ra | apply Rn | apply Rd)); exact HO705.out) hb) (Kd.R_base ho0)) (Kd.R_base ho1)) (fun _ h_ => h_.1))
   have n9_ := Aside0.mk (Kd.R_mono (Kd.R_told (Kd.R_told (Kd.R_old (by (with_reducible repeat (first | apply Ra | apply Rn | apply Rd)); exact HO708.out) hb) (Kd.R_base ho0)) (Kd.R_base ho1)) (fun _ h_ => h_.1))
   have n10_ := Aside0.mk (Kd.R_lower (Kd.R_new' (Kd.R_new' (Kd.R_new' (Kd.R_new' (Kd.R_new' (Kd.R_new' (Kd.R_new' (Kd.R_new' (Kd.R_new' (Kd.R_new' ho0 (Kd.R_lt (by (with_reducible repeat (first | apply Ra | apply Rn | apply Rd)); exact HO669.out))) (Kd.R_lt (by (with_reducible repeat (first | apply Ra | apply Rn | apply Rd)); exact HO672.out))) (Kd.R_lt (by (with_reducible repeat (first | apply Ra | apply Rn | apply Rd)); exact HO678.out))) (Kd.R_lt (by (with_reducible repeat (first | apply Ra | apply Rn | apply Rd)); exact HO681.out))) (Kd.R_lt (by (with_reducible repeat (first | apply Ra | apply Rn | apply Rd)); exact HO687.out))) (Kd.R_lt (by (with_reducible repeat (first | apply Ra | apply Rn | apply Rd)); exact HO690.out))) (Kd.R_lt (by (with_reducible repeat (first | apply Ra | apply Rn | apply Rd)); exact HO696.out))) (Kd.R_lt (by (with_reducible repeat (first | apply Ra | apply Rn | apply Rd)); exact HO699.out))) (Kd.R_lt (by (with_reducible repeat (first | apply Ra | apply Rn | apply Rd)); exact HO705.out))) (Kd.R_lt (by (with_reducible repeat (first | apply Ra | apply Rn | apply Rd)); exact HO708.out))) (below_size (by repeat (first | with_reducible exact HB.out | apply ba | apply bn | apply b1 | refine below_set ?_ GE674.out | refine below_set ?_ GE683.out | refine below_set ?_ GE692.out | refine below_set ?_ GE701.out))))
   have n11_ := Aside0.mk (Kd.R_lower (Kd.R_new' (Kd.R_new' (Kd.R_new' (Kd.R_new' (Kd.R_new' (Kd.R_new' (Kd.R_new' (Kd.R_new' (Kd.R_new' (Kd.R_new' ho1 (Kd.R_lt (by (with_reducible repeat (first | apply Ra | apply Rn | apply Rd)); exact HO669.out))) (Kd.R_lt (by (with_reducible repeat (first | apply Ra | apply Rn | apply Rd)); exact HO672.out))) (Kd.R_lt (by (with_reducible repeat (first | apply Ra | apply Rn | apply Rd)); exact HO678.out))) (Kd.R_lt (by (with_reducible repeat (first | apply Ra | apply Rn | apply Rd)); exact HO681.out))) (Kd.R_lt (by (with_reducible repeat (first | apply Ra | apply Rn | apply Rd)); exact HO687.out))) (Kd.R_lt (by (with_reducible repeat (first | apply Ra | apply Rn | apply Rd)); exact HO690.out))) (Kd.R_lt (by (with_reducible repeat (first | apply Ra | apply Rn | apply Rd)); exact HO696.out))) (Kd.R_lt (by (with_reducible repeat (first | apply Ra | apply Rn | apply Rd)); exact HO699.out))) (Kd.R_lt (by (with_reducible repeat (first | apply Ra | apply Rn | apply Rd)); exact HO705.out))) (Kd.R_lt (by (with_reducible repeat (first | apply Ra | apply Rn | apply Rd)); exact HO708.out))) (below_size (by repeat (first | with_reducible exact HB.out | apply ba | apply bn | apply b1 | refine below_set ?_ GE674.out | refine below_set ?_ GE683.out | refine below_set ?_ GE692.out | refine below_set ?_ GE701.out))))
   have n12_ := Aside0.mk (blk_below (g := gb674) (o := .cells #[.bool t666, .slice Ao22 t667.length co22, .slice Ao23 t670.length co23] 25 (0, 0)) (by (with_reducible repeat (first | refine blk_drewN ?_ _ | refine blk_drew ?_ | refine blk_alloc ?_ _)); exact BK674.out) hb)
   have n13_ := Aside0.mk (blk_below (g := gb683) (o := .cells #[.bool t675, .slice Ao28 t676.length co28, .slice Ao29 t679.length co29] 25 (0, 0)) (by (with_reducible repeat (first | refine blk_drewN ?_ _ | refine blk_drew ?_ | refine blk_alloc ?_ _)); exact BK683.out) hb)
   have n14_ := Aside0.mk (blk_below (g := gb692) (o := .cells #[.bool t684, .slice Ao35 t685.length co35, .slice Ao36 t688.length co36] 25 (0, 0)) (by (with_reducible repeat (first | refine blk_drewN ?_ _ | refine blk_drew ?_ | refine blk_alloc ?_ _)); exact BK692.out) hb)
   have n15_ := Aside0.mk (blk_below (g := gb701) (o := .cells #[.bool t693, .slice Ao43 t694.length co43, .slice Ao44 t697.length co44] 25 (0, 0)) (by (with_reducible repeat (first | refine blk_drewN ?_ _ | refine blk_drew ?_ | refine blk_alloc ?_ _)); exact BK701.out) hb)
   have n16_ := Aside0.mk (below_step (by repeat (first | with_reducible exact HB.out | apply ba | apply bn | apply b1 | refine below_set ?_ GE674.out | refine below_set ?_ GE683.out | refine below_set ?_ GE692.out | refine below_set ?_ GE701.out)) hb)
   clear HO669
   clear HO672
   clear HO678
   clear HO681
   clear HO687
   clear HO690
   clear HO696
   clear HO699
   clear HO705
   clear HO708
   clear BK674
   clear BK683
   clear BK692
   clear BK701
   clear HB
   have HO669 := n0_
   have HO672 := n1_
   have HO678 := n2_
   have HO681 := n3_
   have HO687 := n4_
   have HO690 := n5_
   have HO696 := n6_
   have HO699 := n7_
   have HO705 := n8_
   have HO708 := n9_
   have HO713 := n10_
   have HO716 := n11_
   have BK674 := n12_
   have BK683 := n13_
   have BK692 := n14_
   have BK701 := n15_
   have HB := n16_
   clear n0_ n1_ n2_ n3_ n4_ n5_ n6_ n7_ n8_ n9_ n10_ n11_ n12_ n13_ n14_ n15_ n16_
   (try clear hb)
   (try clear hb2)
   (try clear hk)
   (try clear hi)
   (try clear ho0)
   (try clear ho1)
   obtain ⟨Ao52, co52, eo52⟩ := Kd.R_slice HO713.out
   (first | subst eo52 | (injection eo52 with f1_ f2_ f3_; have f4_ := f1_.symm; have f5_ := f3_.symm; clear f1_ f2_ f3_; subst f4_; subst f5_))
   obtain ⟨Ao53, co53, eo53⟩ := Kd.R_slice HO716.out
   (first | subst eo53 | (injection eo53 with f1_ f2_ f3_; have f4_ := f1_.symm; have f5_ := f3_.symm; clear f1_ f2_ f3_; subst f4_; subst f5_))
   refine hK.out _ _ ⟨(blk_cell BK674.out 0).trans rfl, (blk_cell BK674.out 1).trans rfl, (blk_cell BK674.out 2).trans rfl, (blk_cell BK683.out 0).trans rfl, (blk_cell BK683.out 1).trans rfl, (blk_cell BK683.out 2).trans rfl⟩ (fun hHeld => ?_)
   clear hK K
   refine norm_ (a' := ?_) ?_ ?_
   rotate_left
   ·show Act.put _ (some 38) _ = _
    simp only [Act.put, s0, s1, s2, i64_w, i32_w]
    rfl
   refine one_ (i := 14) (N := some 39) #[true, true, true, true, true, true, true, true, true, true, true, true, true, true, true, false, false, false, false, false, false, false, false, false, false, false, false, false, false, false, false, false, false, false, false] rfl rfl (one_of HT_.out (by kernel_rfl)) (by decide) (fun K hK => ?_)
   refine goes_ Tryd.func11 (by kernel_rfl) rfl #[.agg #[.bool t675, .slice Ao28 t676.length co28, .slice Ao29 t679.length co29], .agg #[.bool t710, .slice Ao52 t711.length co52, .slice Ao53 t714.length co53]] (by rfl) rfl rfl (by (try simp only [List.map_toArray, List.map_cons, List.map_nil]); first | done | rfl) ?_
   with_reducible refine (penumbraref03_Is.calls k t675 _ _ t676 _ _ t679 t710 _ _ t711 _ _ t714 true _ ?side1 ?side2 ?side3 ?side4 ?side5 ?side6 ?side7 ?side8 A11.out).mono ?_
   (case side1 => repeat (first | exact (Kd.R_reads' HO678.out).2.2 | (with_reducible refine Kd.C_alloc ?_ _) | (with_reducible refine Kd.C_drewN ?_ _) | (with_reducible refine Kd.C_drew ?_)))
   (case side2 => exact (Kd.R_reads' HO678.out).2.1)
   (case side3 => repeat (first | exact (Kd.R_reads' HO681.out).2.2 | (with_reducible refine Kd.C_alloc ?_ _) | (with_reducible refine Kd.C_drewN ?_ _) | (with_reducible refine Kd.C_drew ?_)))
   (case side4 => exact (Kd.R_reads' HO681.out).2.1)
   (case side5 => repeat (first | exact (Kd.R_reads' HO713.out).2.2 | (with_reducible refine Kd.C_alloc ?_ _) | (with_reducible refine Kd.C_drewN ?_ _) | (with_reducible refine Kd.C_drew ?_)))
   (case side6 => exact (Kd.R_reads' HO713.out).2.1)
   (case side7 => repeat (first | exact (Kd.R_reads' HO716.out).2.2 | (with_reducible refine Kd.C_alloc ?_ _) | (with_reducible refine Kd.C_drewN ?_ _) | (with_reducible refine Kd.C_drew ?_)))
   (case side8 => exact (Kd.R_reads' HO716.out).2.1)
   rintro e w54 ⟨rfl, hb⟩
   refine ⟨_, rfl, ?_⟩
   have n0_ := Aside0.mk (Kd.R_below (by (with_reducible repeat (first | apply Ra | apply Rn | apply Rd)); exact HO669.out) hb)
   have n1_ := Aside0.mk (Kd.R_below (by (with_reducible repeat (first | apply Ra | apply Rn | apply Rd)); exact HO672.out) hb)
   have n2_ := Aside0.mk (Kd.R_below (by (with_reducible repeat (first | apply Ra | apply Rn | apply Rd)); exact HO678.out) hb)
   have n3_ := Aside0.mk (Kd.R_below (by (with_reducible repeat (first | apply Ra | apply Rn | apply Rd)); exact HO681.out) hb)
   have n4_ := Aside0.mk (Kd.R_below (by (with_reducible repeat (first | apply Ra | apply Rn | apply Rd)); exact HO687.out) hb)
   have n5_ := Aside0.mk (Kd.R_below (by (with_reducible repeat (first | apply Ra | apply Rn | apply Rd)); exact HO690.out) hb)
   have n6_ := Aside0.mk (Kd.R_below (by (with_reducible repeat (first | apply Ra | apply Rn | apply Rd)); exact HO696.out) hb)
   have n7_ := Aside0.mk (Kd.R_below (by (with_reducible repeat (first | apply Ra | apply Rn | apply Rd)); exact HO699.out) hb)
   have n8_ := Aside0.mk (Kd.R_below (by (with_reducible repeat (first | apply Ra | apply Rn | apply Rd)); exact HO705.out) hb)
   have n9_ := Aside0.mk (Kd.R_below (by (with_reducible repeat (first | apply Ra | apply Rn | apply Rd)); exact HO708.out) hb)
   have n10_ := Aside0.mk (Kd.R_below (by (with_reducible repeat (first | apply Ra | apply Rn | apply Rd)); exact HO713.out) hb)
   have n11_ := Aside0.mk (Kd.R_below (by (with_reducible repeat (first | apply Ra | apply Rn | apply Rd)); exact HO716.out) hb)
   have n12_ := Aside0.mk (blk_below (g := gb674) (o := .cells #[.bool t666, .slice Ao22 t667.length co22, .slice Ao23 t670.length co23] 25 (0, 0)) (by (with_reducible repeat (first | refine blk_drewN ?_ _ | refine blk_drew ?_ | refine blk_alloc ?_ _)); exact BK674.out) hb)
   have n13_ := Aside0.mk (blk_below (g := gb683) (o := .cells #[.bool t675, .slice Ao28 t676.length co28, .slice Ao29 t679.length co29] 25 (0, 0)) (by (with_reducible repeat (first | refine blk_drewN ?_ _ | refine blk_drew ?_ | refine blk_alloc ?_ _)); exact BK683.out) hb)
   have n14_ := Aside0.mk (blk_below (g := gb692) (o := .cells #[.bool t684, .slice Ao35 t685.length co35, .slice Ao36 t688.length co36] 25 (0, 0)) (by (with_reducible repeat (first | refine blk_drewN ?_ _ | refine blk_drew ?_ | refine blk_alloc ?_ _)); exact BK692.out) hb)
   have n15_ := Aside0.mk (blk_below (g := gb701) (o := .cells #[.bool t693, .slice Ao43 t694.length co43, .slice Ao44 t697.length co44] 25 (0, 0)) (by (with_reducible repeat (first | refine blk_drewN ?_ _ | refine blk_drew ?_ | refine blk_alloc ?_ _)); exact BK701.out) hb)
   have n16_ := Aside0.mk (below_step (by repeat (first | with_reducible exact HB.out | apply ba | apply bn | apply b1 | refine below_set ?_ GE674.out | refine below_set ?_ GE683.out | refine below_set ?_ GE692.out | refine below_set ?_ GE701.out)) hb)
   clear HO669
   clear HO672
   clear HO678
   clear HO681
   clear HO687
   clear HO690
   clear HO696
   clear HO699
   clear HO705
   clear HO708
   clear HO713
   clear HO716
   clear BK674
   clear BK683
   clear BK692
   clear BK701
   clear HB
   have HO669 := n0_
   have HO672 := n1_
   have HO678 := n2_
   have HO681 := n3_
   have HO687 := n4_
   have HO690 := n5_
   have HO696 := n6_
   have HO699 := n7_
   have HO705 := n8_
   have HO708 := n9_
   have HO713 := n10_
   have HO716 := n11_
   have BK674 := n12_
   have BK683 := n13_
   have BK692 := n14_
   have BK701 := n15_
   have HB := n16_
   clear n0_ n1_ n2_ n3_ n4_ n5_ n6_ n7_ n8_ n9_ n10_ n11_ n12_ n13_ n14_ n15_ n16_
   (try clear hb)
   (try clear hb2)
   (try clear hk)
   (try clear hi)
   refine hK.out _ _ ⟨(blk_cell BK674.out 0).trans rfl, (blk_cell BK674.out 1).trans rfl, (blk_cell BK674.out 2).trans rfl, (blk_cell BK683.out 0).trans rfl, (blk_cell BK683.out 1).trans rfl, (blk_cell BK683.out 2).trans rfl⟩ (fun hHeld => ?_)
   clear hK K
   refine norm_ (a' := ?_) ?_ ?_
   rotate_left
   ·show Act.put _ (some 39) _ = _
    simp only [Act.put, s0, s1, s2, i64_w, i32_w]
    rfl
   refine pure_ (i := 15) (N := some 40) (v := ?_) (a' := ?_) #[true, true, true, true, true, true, true, true, true, true, true, true, true, true, true, true, false, false, false, false, false, false, false, false, false, false, false, false, false, false, false, false, false, false, false] rfl rfl (any_of HT_.out (by kernel_rfl)) (fun _ _ _ h => h) (Or.inl ⟨by rfl, ?_⟩) ?_ ?_
   rotate_left
   ·intro w'
    go_simp
    with_reducible rfl
   rotate_left
   ·simp only [Act.put, s0, s1, s2, i64_w, i32_w]
    rfl
   refine pure_ (i := 16) (N := some 41) (v := ?_) (a' := ?_) #[true, true, true, true, true, true, true, true, true, true, true, true, true, true, true, true, true, false, false, false, false, false, false, false, false, false, false, false, false, false, false, false, false, false, false] rfl rfl (any_of HT_.out (by kernel_rfl)) (fun _ _ _ h => h) (Or.inl ⟨by rfl, ?_⟩) ?_ ?_
   rotate_left
   ·intro w'
    go_simp
    with_reducible rfl
   rotate_left
   ·simp only [Act.put, s0, s1, s2, i64_w, i32_w]
    rfl
   refine pure_ (i := 17) (N := some 42) (v := ?_) (a' := ?_) #[true, true, true, true, true, true, true, true, true, true, true, true, true, true, true, true, true, true, false, false, false, false, false, false, false, false, false, false, false, false, false, false, false, false, false] rfl rfl (any_of HT_.out (by kernel_rfl)) (fun _ _ _ h => h) (Or.inl ⟨by rfl, ?_⟩) ?_ ?_
   rotate_left
   ·intro w'
    go_simp
    with_reducible rfl
   rotate_left
   ·simp only [Act.put, s0, s1, s2, i64_w, i32_w]
    rfl
   refine pure_ (i := 18) (N := some 43) (v := ?_) (a' := ?_) #[true, true, true, true, true, true, true, true, true, true, true, true, true, true, true, true, true, true, true, false, false, false, false, false, false, false, false, false, false, false, false, false, false, false, false] rfl rfl (any_of HT_.out (by kernel_rfl)) (fun _ _ _ h => h) (Or.inl ⟨by rfl, ?_⟩) ?_ ?_
   rotate_left
   ·intro w'
    go_simp
    with_reducible rfl
   rotate_left
   ·simp only [Act.put, s0, s1, s2, i64_w, i32_w]
    rfl
   refine pure_ (i := 19) (N := some 44) (v := ?_) (a' := ?_) #[true, true, true, true, true, true, true, true, true, true, true, true, true, true, true, true, true, true, true, true, false, false, false, false, false, false, false, false, false, false, false, false, false, false, false] rfl rfl (any_of HT_.out (by kernel_rfl)) (fun _ _ _ h => h) (Or.inl ⟨by rfl, ?_⟩) ?_ ?_
   rotate_left
   ·intro w'
    go_simp
    with_reducible rfl
   rotate_left
   ·simp only [Act.put, s0, s1, s2, i64_w, i32_w]
    rfl
   refine pure_ (i := 20) (N := some 45) (v := ?_) (a' := ?_) #[true, true, true, true, true, true, true, true, true, true, true, true, true, true, true, true, true, true, true, true, true, false, false, false, false, false, false, false, false, false, false, false, false, false, false] rfl rfl (any_of HT_.out (by kernel_rfl)) (fun _ _ _ h => h) (Or.inl ⟨by rfl, ?_⟩) ?_ ?_
   rotate_left
   ·intro w'
    go_simp
    with_reducible rfl
   rotate_left
   ·simp only [Act.put, s0, s1, s2, i64_w, i32_w]
    rfl
   refine pure_ (i := 21) (N := some 46) (v := ?_) (a' := ?_) #[true, true, true, true, true, true, true, true, true, true, true, true, true, true, true, true, true, true, true, true, true, true, false, false, false, false, false, false, false, false, false, false, false, false, false] rfl rfl (any_of HT_.out (by kernel_rfl)) (fun _ _ _ h => h) (Or.inl ⟨by rfl, ?_⟩) ?_ ?_
   rotate_left
   ·intro w'
    go_simp
    with_reducible rfl
   rotate_left
   ·simp only [Act.put, s0, s1, s2, i64_w, i32_w]
    rfl
   refine pure_ (i := 22) (N := some 47) (v := ?_) (a' := ?_) #[true, true, true, true, true, true, true, true, true, true, true, true, true, true, true, true, true, true, true, true, true, true, true, false, false, false, false, false, false, false, false, false, false, false, false] rfl rfl (any_of HT_.out (by kernel_rfl)) (fun _ _ _ h => h) (Or.inl ⟨by rfl, ?_⟩) ?_ ?_
   rotate_left
   ·intro w'
    go_simp
    with_reducible rfl
   rotate_left
   ·simp only [Act.put, s0, s1, s2, i64_w, i32_w]
    rfl
   refine pure_ (i := 23) (N := some 48) (v := ?_) (a' := ?_) #[true, true, true, true, true, true, true, true, true, true, true, true, true, true, true, true, true, true, true, true, true, true, true, true, false, false, false, false, false, false, false, false, false, false, false] rfl rfl (any_of HT_.out (by kernel_rfl)) (fun _ _ _ h => h) (Or.inl ⟨by rfl, ?_⟩) ?_ ?_
   rotate_left
   ·intro w'
    go_simp
    with_reducible rfl
   rotate_left
   ·simp only [Act.put, s0, s1, s2, i64_w, i32_w]
    rfl
   refine pure_ (i := 24) (N := some 49) (v := ?_) (a' := ?_) #[true, true, true, true, true, true, true, true, true, true, true, true, true, true, true, true, true, true, true, true, true, true, true, true, true, false, false, false, false, false, false, false, false, false, false] rfl rfl (any_of HT_.out (by kernel_rfl)) (fun _ _ _ h => h) (Or.inl ⟨by rfl, ?_⟩) ?_ ?_
   rotate_left
   ·intro w'
    go_simp
    with_reducible rfl
   rotate_left
   ·simp only [Act.put, s0, s1, s2, i64_w, i32_w]
    rfl
   refine one_ (i := 25) (N := some 50) #[true, true, true, true, true, true, true, true, true, true, true, true, true, true, true, true, true, true, true, true, true, true, true, true, true, true, false, false, false, false, false, false, false, false, false] rfl rfl (one_of HT_.out (by kernel_rfl)) (by decide) (fun K hK => ?_)
   refine goes_ Tryd.func24 (by kernel_rfl) rfl #[.int .i64 (-3), .int .i64 6] (by rfl) rfl rfl (by (try simp only [List.map_toArray, List.map_cons, List.map_nil]); first | done | rfl) ?_
   with_reducible refine (rat_Of.calls k (-3) 6 t718 t719 t722 _ A15.out).mono ?_
   rintro e w55 ⟨v720, v723, rfl, ho0, ho1, hb⟩
   refine ⟨_, rfl, ?_⟩
   have n0_ := Aside0.mk (Kd.R_mono (Kd.R_told (Kd.R_told (Kd.R_old (by (with_reducible repeat (first | apply Ra | apply Rn | apply Rd)); exact HO669.out) hb) (Kd.R_base ho0)) (Kd.R_base ho1)) (fun _ h_ => h_.1))
   have n1_ := Aside0.mk (Kd.R_mono (Kd.R_told (Kd.R_told (Kd.R_old (by (with_reducible repeat (first | apply Ra | apply Rn | apply Rd)); exact HO672.out) hb) (Kd.R_base ho0)) (Kd.R_base ho1)) (fun _ h_ => h_.1))
   have n2_ := Aside0.mk (Kd.R_mono (Kd.R_told (Kd.R_told (Kd.R_old (by (with_reducible repeat (first | apply Ra | apply Rn | apply Rd)); exact HO678.out) hb) (Kd.R_base ho0)) (Kd.R_base ho1)) (fun _ h_ => h_.1))
   have n3_ := Aside0.mk (Kd.R_mono (Kd.R_told (Kd.R_told (Kd.R_old (by (with_reducible repeat (first | apply Ra | apply Rn | apply Rd)); exact HO681.out) hb) (Kd.R_base ho0)) (Kd.R_base ho1)) (fun _ h_ => h_.1))
   have n4_ := Aside0.mk (Kd.R_mono (Kd.R_told (Kd.R_told (Kd.R_old (by (with_reducible repeat (first | apply Ra | apply Rn | apply Rd)); exact HO687.out) hb) (Kd.R_base ho0)) (Kd.R_base ho1)) (fun _ h_ => h_.1))
   have n5_ := Aside0.mk (Kd.R_mono (Kd.R_told (Kd.R_told (Kd.R_old (by (with_reducible repeat (first | apply Ra | apply Rn | apply Rd)); exact HO690.out) hb) (Kd.R_base ho0)) (Kd.R_base ho1)) (fun _ h_ => h_.1))
   have n6_ := Aside0.mk (Kd.R_mono (Kd.R_told (Kd.R_told (Kd.R_old (by (with_reducible repeat (first | apply Ra | apply Rn | apply Rd)); exact HO696.out) hb) (Kd.R_base ho0)) (Kd.R_base ho1)) (fun _ h_ => h_.1))
   have n7_ := Aside0.mk (Kd.R_mono (Kd.R_told (Kd.R_told (Kd.R_old (by (with_reducible repeat (first | apply Ra | apply Rn | apply Rd)); exact HO699.out) hb) (Kd.R_base ho0)) (Kd.R_base ho1)) (fun _ h_ => h_.1))
   have n8_ := Aside0.mk (Kd.R_mono (Kd.R_told (Kd.R_told (Kd.R_old (by (with_reducible repeat (first | apply Ra | apply Rn | apply Rd)); exact HO705.out) hb) (Kd.R_base ho0)) (Kd.R_base ho1)) (fun _ h_ => h_.1))
   have n9_ := Aside0.mk (Kd.R_mono (Kd.R_told (Kd.R_told (Kd.R_old (by (with_reducible repeat (first | apply Ra | apply Rn | apply Rd)); exact HO708.out) hb) (Kd.R_base ho0)) (Kd.R_base ho1)) (fun _ h_ => h_.1))
   have n10_ := Aside0.mk (Kd.R_mono (Kd.R_told (Kd.R_told (Kd.R_old (by (with_reducible repeat (first | apply Ra | apply Rn | apply Rd)); exact HO713.out) hb) (Kd.R_base ho0)) (Kd.R_base ho1)) (fun _ h_ => h_.1))
   have n11_ := Aside0.mk (Kd.R_mono (Kd.R_told (Kd.R_told (Kd.R_old (by (with_reducible repeat (first | apply Ra | apply Rn | apply Rd)); exact HO716.out) hb) (Kd.R_base ho0)) (Kd.R_base ho1)) (fun _ h_ => h_.1))
   have n12_ := Aside0.mk (Kd.R_lower (Kd.R_new' (Kd.R_new' (Kd.R_new' (Kd.R_new' (Kd.R_new' (Kd.R_new' (Kd.R_new' (Kd.R_new' (Kd.R_new' (Kd.R_new' (Kd.R_new' (Kd.R_new' ho0 (Kd.R_lt (by (with_reducible repeat (first | apply Ra | apply Rn | apply Rd)); exact HO669.out))) (Kd.R_lt (by (with_reducible repeat (first | apply Ra | apply Rn | apply Rd)); exact HO672.out))) (Kd.R_lt (by (with_reducible repeat (first | apply Ra | apply Rn | apply Rd)); exact HO678.out))) (Kd.R_lt (by (with_reducible repeat (first | apply Ra | apply Rn | apply Rd)); exact HO681.out))) (Kd.R_lt (by (with_reducible repeat (first | apply Ra | apply Rn | apply Rd)); exact HO687.out))) (Kd.R_lt (by (with_reducible repeat (first | apply Ra | apply Rn | apply Rd)); exact HO690.out))) (Kd.R_lt (by (with_reducible repeat (first | apply Ra | apply Rn | apply Rd)); exact HO696.out))) (Kd.R_lt (by (with_reducible repeat (first | apply Ra | apply Rn | apply Rd)); exact HO699.out))) (Kd.R_lt (by (with_reducible repeat (first | apply Ra | apply Rn | apply Rd)); exact HO705.out))) (Kd.R_lt (by (with_reducible repeat (first | apply Ra | apply Rn | apply Rd)); exact HO708.out))) (Kd.R_lt (by (with_reducible repeat (first | apply Ra | apply Rn | apply Rd)); exact HO713.out))) (Kd.R_lt (by (with_reducible repeat (first | apply Ra | apply Rn | apply Rd)); exact HO716.out))) (below_size (by repeat (first | with_reducible exact HB.out | apply ba | apply bn | apply b1 | refine below_set ?_ GE674.out | refine below_set ?_ GE683.out | refine below_set ?_ GE692.out | refine below_set ?_ GE701.out))))
   have n13_ := Aside0.mk (Kd.R_lower (Kd.R_new' (Kd.R_new' (Kd.R_new' (Kd.R_new' (Kd.R_new' (Kd.R_new' (Kd.R_new' (Kd.R_new' (Kd.R_new' (Kd.R_new' (Kd.R_new' (Kd.R_new' ho1 (Kd.R_lt (by (with_reducible repeat (first | apply Ra | apply Rn | apply Rd)); exact HO669.out))) (Kd.R_lt (by (with_reducible repeat (first | apply Ra | apply Rn | apply Rd)); exact HO672.out))) (Kd.R_lt (by (with_reducible repeat (first | apply Ra | apply Rn | apply Rd)); exact HO678.out))) (Kd.R_lt (by (with_reducible repeat (first | apply Ra | apply Rn | apply Rd)); exact HO681.out))) (Kd.R_lt (by (with_reducible repeat (first | apply Ra | apply Rn | apply Rd)); exact HO687.out))) (Kd.R_lt (by (with_reducible repeat (first | apply Ra | apply Rn | apply Rd)); exact HO690.out))) (Kd.R_lt (by (with_reducible repeat (first | apply Ra | apply Rn | apply Rd)); exact HO696.out))) (Kd.R_lt (by (with_reducible repeat (first | apply Ra | apply Rn | apply Rd)); exact HO699.out))) (Kd.R_lt (by (with_reducible repeat (first | apply Ra | apply Rn | apply Rd)); exact HO705.out))) (Kd.R_lt (by (with_reducible repeat (first | apply Ra | apply Rn | apply Rd)); exact HO708.out))) (Kd.R_lt (by (with_reducible repeat (first | apply Ra | apply Rn | apply Rd)); exact HO713.out))) (Kd.R_lt (by (with_reducible repeat (first | apply Ra | apply Rn | apply Rd)); exact HO716.out))) (below_size (by repeat (first | with_reducible exact HB.out | apply ba | apply bn | apply b1 | refine below_set ?_ GE674.out | refine below_set ?_ GE683.out | refine below_set ?_ GE692.out | refine below_set ?_ GE701.out))))
   have n14_ := Aside0.mk (blk_below (g := gb674) (o := .cells #[.bool t666, .slice Ao22 t667.length co22, .slice Ao23 t670.length co23] 25 (0, 0)) (by (with_reducible repeat (first | refine blk_drewN ?_ _ | refine blk_drew ?_ | refine blk_alloc ?_ _)); exact BK674.out) hb)
   have n15_ := Aside0.mk (blk_below (g := gb683) (o := .cells #[.bool t675, .slice Ao28 t676.length co28, .slice Ao29 t679.length co29] 25 (0, 0)) (by (with_reducible repeat (first | refine blk_drewN ?_ _ | refine blk_drew ?_ | refine blk_alloc ?_ _)); exact BK683.out) hb)
   have n16_ := Aside0.mk (blk_below (g := gb692) (o := .cells #[.bool t684, .slice Ao35 t685.length co35, .slice Ao36 t688.length co36] 25 (0, 0)) (by (with_reducible repeat (first | refine blk_drewN ?_ _ | refine blk_drew ?_ | refine blk_alloc ?_ _)); exact BK692.out) hb)
   have n17_ := Aside0.mk (blk_below (g := gb701) (o := .cells #[.bool t693, .slice Ao43 t694.length co43, .slice Ao44 t697.length co44] 25 (0, 0)) (by (with_reducible repeat (first | refine blk_drewN ?_ _ | refine blk_drew ?_ | refine blk_alloc ?_ _)); exact BK701.out) hb)
   have n18_ := Aside0.mk (below_step (by repeat (first | with_reducible exact HB.out | apply ba | apply bn | apply b1 | refine below_set ?_ GE674.out | refine below_set ?_ GE683.out | refine below_set ?_ GE692.out | refine below_set ?_ GE701.out)) hb)
   clear HO669
   clear HO672
   clear HO678
   clear HO681
   clear HO687
   clear HO690
   clear HO696
   clear HO699
   clear HO705
   clear HO708
   clear HO713
   clear HO716
   clear BK674
   clear BK683
   clear BK692
   clear BK701
   clear HB
   have HO669 := n0_
   have HO672 := n1_
   have HO678 := n2_
   have HO681 := n3_
   have HO687 := n4_
   have HO690 := n5_
   have HO696 := n6_
   have HO699 := n7_
   have HO705 := n8_
   have HO708 := n9_
   have HO713 := n10_
   have HO716 := n11_
   have HO721 := n12_
   have HO724 := n13_
   have BK674 := n14_
   have BK683 := n15_
   have BK692 := n16_
   have BK701 := n17_
   have HB := n18_
   clear n0_ n1_ n2_ n3_ n4_ n5_ n6_ n7_ n8_ n9_ n10_ n11_ n12_ n13_ n14_ n15_ n16_ n17_ n18_
   (try clear hb)
   (try clear hb2)
   (try clear hk)
   (try clear hi)
   (try clear ho0)
   (try clear ho1)
   obtain ⟨Ao56, co56, eo56⟩ := Kd.R_slice HO721.out
   (first | subst eo56 | (injection eo56 with f1_ f2_ f3_; have f4_ := f1_.symm; have f5_ := f3_.symm; clear f1_ f2_ f3_; subst f4_; subst f5_))
   obtain ⟨Ao57, co57, eo57⟩ := Kd.R_slice HO724.out
   (first | subst eo57 | (injection eo57 with f1_ f2_ f3_; have f4_ := f1_.symm; have f5_ := f3_.symm; clear f1_ f2_ f3_; subst f4_; subst f5_))
   refine hK.out _ _ ⟨(blk_cell BK674.out 0).trans rfl, (blk_cell BK674.out 1).trans rfl, (blk_cell BK674.out 2).trans rfl, (blk_cell BK683.out 0).trans rfl, (blk_cell BK683.out 1).trans rfl, (blk_cell BK683.out 2).trans rfl⟩ (fun hHeld => ?_)
   clear hK K
   refine norm_ (a' := ?_) ?_ ?_
   rotate_left
   ·show Act.put _ (some 50) _ = _
    simp only [Act.put, s0, s1, s2, i64_w, i32_w]
    rfl
   refine one_ (i := 26) (N := some 51) #[true, true, true, true, true, true, true, true, true, true, true, true, true, true, true, true, true, true, true, true, true, true, true, true, true, true, true, false, false, false, false, false, false, false, false] rfl rfl (one_of HT_.out (by kernel_rfl)) (by decide) (fun K hK => ?_)
   refine goes_ Tryd.func12 (by kernel_rfl) rfl #[.agg #[.bool t718, .slice Ao56 t719.length co56, .slice Ao57 t722.length co57]] (by rfl) rfl rfl (by (try simp only [List.map_toArray, List.map_cons, List.map_nil]); first | done | rfl) ?_
   with_reducible refine (decimal_Print.calls k t718 _ _ t719 _ _ t722 t725 _ ?side1 ?side2 ?side3 ?side4 A16.out).mono ?_
   (case side1 => repeat (first | exact (Kd.R_reads' HO721.out).2.2 | (with_reducible refine Kd.C_alloc ?_ _) | (with_reducible refine Kd.C_drewN ?_ _) | (with_reducible refine Kd.C_drew ?_)))
   (case side2 => exact (Kd.R_reads' HO721.out).2.1)
   (case side3 => repeat (first | exact (Kd.R_reads' HO724.out).2.2 | (with_reducible refine Kd.C_alloc ?_ _) | (with_reducible refine Kd.C_drewN ?_ _) | (with_reducible refine Kd.C_drew ?_)))
   (case side4 => exact (Kd.R_reads' HO724.out).2.1)
   rintro e w58 ⟨rfl, hb⟩
   refine ⟨_, rfl, ?_⟩
   have n0_ := Aside0.mk (Kd.R_below (by (with_reducible repeat (first | apply Ra | apply Rn | apply Rd)); exact HO669.out) hb)
   have n1_ := Aside0.mk (Kd.R_below (by (with_reducible repeat (first | apply Ra | apply Rn | apply Rd)); exact HO672.out) hb)
   have n2_ := Aside0.mk (Kd.R_below (by (with_reducible repeat (first | apply Ra | apply Rn | apply Rd)); exact HO678.out) hb)
   have n3_ := Aside0.mk (Kd.R_below (by (with_reducible repeat (first | apply Ra | apply Rn | apply Rd)); exact HO681.out) hb)
   have n4_ := Aside0.mk (Kd.R_below (by (with_reducible repeat (first | apply Ra | apply Rn | apply Rd)); exact HO687.out) hb)
   have n5_ := Aside0.mk (Kd.R_below (by (with_reducible repeat (first | apply Ra | apply Rn | apply Rd)); exact HO690.out) hb)
   have n6_ := Aside0.mk (Kd.R_below (by (with_reducible repeat (first | apply Ra | apply Rn | apply Rd)); exact HO696.out) hb)
   have n7_ := Aside0.mk (Kd.R_below (by (with_reducible repeat (first | apply Ra | apply Rn | apply Rd)); exact HO699.out) hb)
   have n8_ := Aside0.mk (Kd.R_below (by (with_reducible repeat (first | apply Ra | apply Rn | apply Rd)); exact HO705.out) hb)
   have n9_ := Aside0.mk (Kd.R_below (by (with_reducible repeat (first | apply Ra | apply Rn | apply Rd)); exact HO708.out) hb)
   have n10_ := Aside0.mk (Kd.R_below (by (with_reducible repeat (first | apply Ra | apply Rn | apply Rd)); exact HO713.out) hb)
   have n11_ := Aside0.mk (Kd.R_below (by (with_reducible repeat (first | apply Ra | apply Rn | apply Rd)); exact HO716.out) hb)
   have n12_ := Aside0.mk (Kd.R_below (by (with_reducible repeat (first | apply Ra | apply Rn | apply Rd)); exact HO721.out) hb)
   have n13_ := Aside0.mk (Kd.R_below (by (with_reducible repeat (first | apply Ra | apply Rn | apply Rd)); exact HO724.out) hb)
   have n14_ := Aside0.mk (blk_below (g := gb674) (o := .cells #[.bool t666, .slice Ao22 t667.length co22, .slice Ao23 t670.length co23] 25 (0, 0)) (by (with_reducible repeat (first | refine blk_drewN ?_ _ | refine blk_drew ?_ | refine blk_alloc ?_ _)); exact BK674.out) hb)
   have n15_ := Aside0.mk (blk_below (g := gb683) (o := .cells #[.bool t675, .slice Ao28 t676.length co28, .slice Ao29 t679.length co29] 25 (0, 0)) (by (with_reducible repeat (first | refine blk_drewN ?_ _ | refine blk_drew ?_ | refine blk_alloc ?_ _)); exact BK683.out) hb)
   have n16_ := Aside0.mk (blk_below (g := gb692) (o := .cells #[.bool t684, .slice Ao35 t685.length co35, .slice Ao36 t688.length co36] 25 (0, 0)) (by (with_reducible repeat (first | refine blk_drewN ?_ _ | refine blk_drew ?_ | refine blk_alloc ?_ _)); exact BK692.out) hb)
   have n17_ := Aside0.mk (blk_below (g := gb701) (o := .cells #[.bool t693, .slice Ao43 t694.length co43, .slice Ao44 t697.length co44] 25 (0, 0)) (by (with_reducible repeat (first | refine blk_drewN ?_ _ | refine blk_drew ?_ | refine blk_alloc ?_ _)); exact BK701.out) hb)
   have n18_ := Aside0.mk (below_step (by repeat (first | with_reducible exact HB.out | apply ba | apply bn | apply b1 | refine below_set ?_ GE674.out | refine below_set ?_ GE683.out | refine below_set ?_ GE692.out | refine below_set ?_ GE701.out)) hb)
   clear HO669
   clear HO672
   clear HO678
   clear HO681
   clear HO687
   clear HO690
   clear HO696
   clear HO699
   clear HO705
   clear HO708
   clear HO713
   clear HO716
   clear HO721
   clear HO724
   clear BK674
   clear BK683
   clear BK692
   clear BK701
   clear HB
   have HO669 := n0_
   have HO672 := n1_
   have HO678 := n2_
   have HO681 := n3_
   have HO687 := n4_
   have HO690 := n5_
   have HO696 := n6_
   have HO699 := n7_
   have HO705 := n8_
   have HO708 := n9_
   have HO713 := n10_
   have HO716 := n11_
   have HO721 := n12_
   have HO724 := n13_
   have BK674 := n14_
   have BK683 := n15_
   have BK692 := n16_
   have BK701 := n17_
   have HB := n18_
   clear n0_ n1_ n2_ n3_ n4_ n5_ n6_ n7_ n8_ n9_ n10_ n11_ n12_ n13_ n14_ n15_ n16_ n17_ n18_
   (try clear hb)
   (try clear hb2)
   (try clear hk)
   (try clear hi)
   refine hK.out _ _ ⟨(blk_cell BK674.out 0).trans rfl, (blk_cell BK674.out 1).trans rfl, (blk_cell BK674.out 2).trans rfl, (blk_cell BK683.out 0).trans rfl, (blk_cell BK683.out 1).trans rfl, (blk_cell BK683.out 2).trans rfl⟩ (fun hHeld => ?_)
   clear hK K
   refine norm_ (a' := ?_) ?_ ?_
   rotate_left
   ·show Act.put _ (some 51) _ = _
    simp only [Act.put, s0, s1, s2, i64_w, i32_w]
    rfl
   refine pure_ (i := 27) (N := some 52) (v := ?_) (a' := ?_) #[true, true, true, true, true, true, true, true, true, true, true, true, true, true, true, true, true, true, true, true, true, true, true, true, true, true, true, true, false, false, false, false, false, false, false] rfl rfl (any_of HT_.out (by kernel_rfl)) (fun _ _ _ h => h) (Or.inl ⟨by rfl, ?_⟩) ?_ ?_
   rotate_left
   ·intro w'
    go_simp
    with_reducible rfl
   rotate_left
   ·simp only [Act.put, s0, s1, s2, i64_w, i32_w]
    rfl
   refine pure_ (i := 28) (N := some 53) (v := ?_) (a' := ?_) #[true, true, true, true, true, true, true, true, true, true, true, true, true, true, true, true, true, true, true, true, true, true, true, true, true, true, true, true, true, false, false, false, false, false, false] rfl rfl (any_of HT_.out (by kernel_rfl)) (fun _ _ _ h => h) (Or.inl ⟨by rfl, ?_⟩) ?_ ?_
   rotate_left
   ·intro w'
    go_simp
    with_reducible rfl
   rotate_left
   ·simp only [Act.put, s0, s1, s2, i64_w, i32_w]
    rfl
   refine pure_ (i := 29) (N := some 54) (v := ?_) (a' := ?_) #[true, true, true, true, true, true, true, true, true, true, true, true, true, true, true, true, true, true, true, true, true, true, true, true, true, true, true, true, true, true, false, false, false, false, false] rfl rfl (any_of HT_.out (by kernel_rfl)) (fun _ _ _ h => h) (Or.inl ⟨by rfl, ?_⟩) ?_ ?_
   rotate_left
   ·intro w'
    go_simp
    with_reducible rfl
   rotate_left
   ·simp only [Act.put, s0, s1, s2, i64_w, i32_w]
    rfl
   refine one_ (i := 30) (N := some 55) #[true, true, true, true, true, true, true, true, true, true, true, true, true, true, true, true, true, true, true, true, true, true, true, true, true, true, true, true, true, true, true, false, false, false, false] rfl rfl (one_of HT_.out (by kernel_rfl)) (by decide) (fun K hK => ?_)
   refine Kd.R_lit_step (Kd.int .u32) _ 35 ?hg (N := 55) ?hd (xs := ([0, 1] : List Int)) (inner := [.int .u32 0, .int .u32 1]) (ok := fun _ => True) (okp := fun _ => True) ?hr ?hp (fun _ hk => hk) trivial (Below.refl _ _) (Nat.le_refl _) (by simp) ?_; (case hd => rfl); (case hg => rfl); (case hr => first | (go_simp; done) | (go_simp; (with_reducible rfl)) | (go_simp; rfl) | (go_simp; simp only [hu, Int.emod_sub_emod])); (case hp => exact (Reps.one (show Kd.M (Kd.int .u32) _ _ _ 0 [.int .u32 0] from rfl) (Reps.one (show Kd.M (Kd.int .u32) _ _ _ 1 [.int .u32 1] from rfl) (Reps.none _ _))))
   intro v727 w59 ho60 hb hg_ hnew_
   clear hg_ hnew_
   (first | rw [← Ny726.out] at ho60 | (simp only [Int.reduceToNat] at ho60; rw [← Ny726.out] at ho60))
   have n0_ := Aside0.mk (Kd.R_elder' (by (with_reducible repeat (first | apply Ra | apply Rn | apply Rd)); exact HO669.out) (Kd.R_base ho60) hb)
   have n1_ := Aside0.mk (Kd.R_elder' (by (with_reducible repeat (first | apply Ra | apply Rn | apply Rd)); exact HO672.out) (Kd.R_base ho60) hb)
   have n2_ := Aside0.mk (Kd.R_elder' (by (with_reducible repeat (first | apply Ra | apply Rn | apply Rd)); exact HO678.out) (Kd.R_base ho60) hb)
   have n3_ := Aside0.mk (Kd.R_elder' (by (with_reducible repeat (first | apply Ra | apply Rn | apply Rd)); exact HO681.out) (Kd.R_base ho60) hb)
   have n4_ := Aside0.mk (Kd.R_elder' (by (with_reducible repeat (first | apply Ra | apply Rn | apply Rd)); exact HO687.out) (Kd.R_base ho60) hb)
   have n5_ := Aside0.mk (Kd.R_elder' (by (with_reducible repeat (first | apply Ra | apply Rn | apply Rd)); exact HO690.out) (Kd.R_base ho60) hb)
   have n6_ := Aside0.mk (Kd.R_elder' (by (with_reducible repeat (first | apply Ra | apply Rn | apply Rd)); exact HO696.out) (Kd.R_base ho60) hb)
   have n7_ := Aside0.mk (Kd.R_elder' (by (with_reducible repeat (first | apply Ra | apply Rn | apply Rd)); exact HO699.out) (Kd.R_base ho60) hb)
   have n8_ := Aside0.mk (Kd.R_elder' (by (with_reducible repeat (first | apply Ra | apply Rn | apply Rd)); exact HO705.out) (Kd.R_base ho60) hb)
   have n9_ := Aside0.mk (Kd.R_elder' (by (with_reducible repeat (first | apply Ra | apply Rn | apply Rd)); exact HO708.out) (Kd.R_base ho60) hb)
   have n10_ := Aside0.mk (Kd.R_elder' (by (with_reducible repeat (first | apply Ra | apply Rn | apply Rd)); exact HO713.out) (Kd.R_base ho60) hb)
   have n11_ := Aside0.mk (Kd.R_elder' (by (with_reducible repeat (first | apply Ra | apply Rn | apply Rd)); exact HO716.out) (Kd.R_base ho60) hb)
   have n12_ := Aside0.mk (Kd.R_elder' (by (with_reducible repeat (first | apply Ra | apply Rn | apply Rd)); exact HO721.out) (Kd.R_base ho60) hb)
   have n13_ := Aside0.mk (Kd.R_elder' (by (with_reducible repeat (first | apply Ra | apply Rn | apply Rd)); exact HO724.out) (Kd.R_base ho60) hb)
   have n14_ := Aside0.mk (Kd.R_lower (Kd.R_new' (Kd.R_new' (Kd.R_new' (Kd.R_new' (Kd.R_new' (Kd.R_new' (Kd.R_new' (Kd.R_new' (Kd.R_new' (Kd.R_new' (Kd.R_new' (Kd.R_new' (Kd.R_new' (Kd.R_new' ho60 (Kd.R_lt (by (with_reducible repeat (first | apply Ra | apply Rn | apply Rd)); exact HO669.out))) (Kd.R_lt (by (with_reducible repeat (first | apply Ra | apply Rn | apply Rd)); exact HO672.out))) (Kd.R_lt (by (with_reducible repeat (first | apply Ra | apply Rn | apply Rd)); exact HO678.out))) (Kd.R_lt (by (with_reducible repeat (first | apply Ra | apply Rn | apply Rd)); exact HO681.out))) (Kd.R_lt (by (with_reducible repeat (first | apply Ra | apply Rn | apply Rd)); exact HO687.out))) (Kd.R_lt (by (with_reducible repeat (first | apply Ra | apply Rn | apply Rd)); exact HO690.out))) (Kd.R_lt (by (with_reducible repeat (first | apply Ra | apply Rn | apply Rd)); exact HO696.out))) (Kd.R_lt (by (with_reducible repeat (first | apply Ra | apply Rn | apply Rd)); exact HO699.out))) (Kd.R_lt (by (with_reducible repeat (first | apply Ra | apply Rn | apply Rd)); exact HO705.out))) (Kd.R_lt (by (with_reducible repeat (first | apply Ra | apply Rn | apply Rd)); exact HO708.out))) (Kd.R_lt (by (with_reducible repeat (first | apply Ra | apply Rn | apply Rd)); exact HO713.out))) (Kd.R_lt (by (with_reducible repeat (first | apply Ra | apply Rn | apply Rd)); exact HO716.out))) (Kd.R_lt (by (with_reducible repeat (first | apply Ra | apply Rn | apply Rd)); exact HO721.out))) (Kd.R_lt (by (with_reducible repeat (first | apply Ra | apply Rn | apply Rd)); exact HO724.out))) (below_size (by repeat (first | with_reducible exact HB.out | apply ba | apply bn | apply b1 | refine below_set ?_ GE674.out | refine below_set ?_ GE683.out | refine below_set ?_ GE692.out | refine below_set ?_ GE701.out))))
   have n15_ := Aside0.mk (blk_below (g := gb674) (o := .cells #[.bool t666, .slice Ao22 t667.length co22, .slice Ao23 t670.length co23] 25 (0, 0)) (by (with_reducible repeat (first | refine blk_drewN ?_ _ | refine blk_drew ?_ | refine blk_alloc ?_ _)); exact BK674.out) hb)
   have n16_ := Aside0.mk (blk_below (g := gb683) (o := .cells #[.bool t675, .slice Ao28 t676.length co28, .slice Ao29 t679.length co29] 25 (0, 0)) (by (with_reducible repeat (first | refine blk_drewN ?_ _ | refine blk_drew ?_ | refine blk_alloc ?_ _)); exact BK683.out) hb)
   have n17_ := Aside0.mk (blk_below (g := gb692) (o := .cells #[.bool t684, .slice Ao35 t685.length co35, .slice Ao36 t688.length co36] 25 (0, 0)) (by (with_reducible repeat (first | refine blk_drewN ?_ _ | refine blk_drew ?_ | refine blk_alloc ?_ _)); exact BK692.out) hb)
   have n18_ := Aside0.mk (blk_below (g := gb701) (o := .cells #[.bool t693, .slice Ao43 t694.length co43, .slice Ao44 t697.length co44] 25 (0, 0)) (by (with_reducible repeat (first | refine blk_drewN ?_ _ | refine blk_drew ?_ | refine blk_alloc ?_ _)); exact BK701.out) hb)
   have n19_ := Aside0.mk (below_step (by repeat (first | with_reducible exact HB.out | apply ba | apply bn | apply b1 | refine below_set ?_ GE674.out | refine below_set ?_ GE683.out | refine below_set ?_ GE692.out | refine below_set ?_ GE701.out)) hb)
   clear HO669
   clear HO672
   clear HO678
   clear HO681
   clear HO687
   clear HO690
   clear HO696
   clear HO699
   clear HO705
   clear HO708
   clear HO713
   clear HO716
   clear HO721
   clear HO724
   clear BK674
   clear BK683
   clear BK692
   clear BK701
   clear HB
   have HO669 := n0_
   have HO672 := n1_
   have HO678 := n2_
   have HO681 := n3_
   have HO687 := n4_
   have HO690 := n5_
   have HO696 := n6_
   have HO699 := n7_
   have HO705 := n8_
   have HO708 := n9_
   have HO713 := n10_
   have HO716 := n11_
   have HO721 := n12_
   have HO724 := n13_
   have HO728 := n14_
   have BK674 := n15_
   have BK683 := n16_
   have BK692 := n17_
   have BK701 := n18_
   have HB := n19_
   clear n0_ n1_ n2_ n3_ n4_ n5_ n6_ n7_ n8_ n9_ n10_ n11_ n12_ n13_ n14_ n15_ n16_ n17_ n18_ n19_
   clear hb ho60
   obtain ⟨Ao61, co61, eo61⟩ := Kd.R_slice HO728.out
   (first | subst eo61 | (injection eo61 with f1_ f2_ f3_; have f4_ := f1_.symm; have f5_ := f3_.symm; clear f1_ f2_ f3_; subst f4_; subst f5_))
   refine hK.out _ _ ⟨(blk_cell BK674.out 0).trans rfl, (blk_cell BK674.out 1).trans rfl, (blk_cell BK674.out 2).trans rfl, (blk_cell BK683.out 0).trans rfl, (blk_cell BK683.out 1).trans rfl, (blk_cell BK683.out 2).trans rfl⟩ (fun hHeld => ?_)
   clear hK K
   refine norm_ (a' := ?_) ?_ ?_
   rotate_left
   ·show Act.put _ (some 55) _ = _
    simp only [Act.put, s0, s1, s2, i64_w, i32_w]
    rfl
   refine one_ (i := 31) (N := some 56) #[true, true, true, true, true, true, true, true, true, true, true, true, true, true, true, true, true, true, true, true, true, true, true, true, true, true, true, true, true, true, true, true, false, false, false] rfl rfl (one_of HT_.out (by kernel_rfl)) (by decide) (fun K hK => ?_)
   refine goes_ Tryd.func14 (by kernel_rfl) rfl #[.slice Ao61 y726.length co61] (by rfl) rfl rfl (by (try simp only [List.map_toArray, List.map_cons, List.map_nil]); first | done | rfl) ?_
   with_reducible refine (decimal_Natural.calls k _ _ y726 t729 _ ?side1 ?side2 A18.out).mono ?_
   (case side1 => repeat (first | exact (Kd.R_reads' HO728.out).2.2 | (with_reducible refine Kd.C_alloc ?_ _) | (with_reducible refine Kd.C_drewN ?_ _) | (with_reducible refine Kd.C_drew ?_)))
   (case side2 => exact (Kd.R_reads' HO728.out).2.1)
   rintro e w62 ⟨rfl, hb⟩
   refine ⟨_, rfl, ?_⟩
   have n0_ := Aside0.mk (Kd.R_below (by (with_reducible repeat (first | apply Ra | apply Rn | apply Rd)); exact HO669.out) hb)
   have n1_ := Aside0.mk (Kd.R_below (by (with_reducible repeat (first | apply Ra | apply Rn | apply Rd)); exact HO672.out) hb)
   have n2_ := Aside0.mk (Kd.R_below (by (with_reducible repeat (first | apply Ra | apply Rn | apply Rd)); exact HO678.out) hb)
   have n3_ := Aside0.mk (Kd.R_below (by (with_reducible repeat (first | apply Ra | apply Rn | apply Rd)); exact HO681.out) hb)
   have n4_ := Aside0.mk (Kd.R_below (by (with_reducible repeat (first | apply Ra | apply Rn | apply Rd)); exact HO687.out) hb)
   have n5_ := Aside0.mk (Kd.R_below (by (with_reducible repeat (first | apply Ra | apply Rn | apply Rd)); exact HO690.out) hb)
   have n6_ := Aside0.mk (Kd.R_below (by (with_reducible repeat (first | apply Ra | apply Rn | apply Rd)); exact HO696.out) hb)
   have n7_ := Aside0.mk (Kd.R_below (by (with_reducible repeat (first | apply Ra | apply Rn | apply Rd)); exact HO699.out) hb)
   have n8_ := Aside0.mk (Kd.R_below (by (with_reducible repeat (first | apply Ra | apply Rn | apply Rd)); exact HO705.out) hb)
   have n9_ := Aside0.mk (Kd.R_below (by (with_reducible repeat (first | apply Ra | apply Rn | apply Rd)); exact HO708.out) hb)
   have n10_ := Aside0.mk (Kd.R_below (by (with_reducible repeat (first | apply Ra | apply Rn | apply Rd)); exact HO713.out) hb)
   have n11_ := Aside0.mk (Kd.R_below (by (with_reducible repeat (first | apply Ra | apply Rn | apply Rd)); exact HO716.out) hb)
   have n12_ := Aside0.mk (Kd.R_below (by (with_reducible repeat (first | apply Ra | apply Rn | apply Rd)); exact HO721.out) hb)
   have n13_ := Aside0.mk (Kd.R_below (by (with_reducible repeat (first | apply Ra | apply Rn | apply Rd)); exact HO724.out) hb)
   have n14_ := Aside0.mk (Kd.R_below (by (with_reducible repeat (first | apply Ra | apply Rn | apply Rd)); exact HO728.out) hb)
   have n15_ := Aside0.mk (blk_below (g := gb674) (o := .cells #[.bool t666, .slice Ao22 t667.length co22, .slice Ao23 t670.length co23] 25 (0, 0)) (by (with_reducible repeat (first | refine blk_drewN ?_ _ | refine blk_drew ?_ | refine blk_alloc ?_ _)); exact BK674.out) hb)
   have n16_ := Aside0.mk (blk_below (g := gb683) (o := .cells #[.bool t675, .slice Ao28 t676.length co28, .slice Ao29 t679.length co29] 25 (0, 0)) (by (with_reducible repeat (first | refine blk_drewN ?_ _ | refine blk_drew ?_ | refine blk_alloc ?_ _)); exact BK683.out) hb)
   have n17_ := Aside0.mk (blk_below (g := gb692) (o := .cells #[.bool t684, .slice Ao35 t685.length co35, .slice Ao36 t688.length co36] 25 (0, 0)) (by (with_reducible repeat (first | refine blk_drewN ?_ _ | refine blk_drew ?_ | refine blk_alloc ?_ _)); exact BK692.out) hb)
   have n18_ := Aside0.mk (blk_below (g := gb701) (o := .cells #[.bool t693, .slice Ao43 t694.length co43, .slice Ao44 t697.length co44] 25 (0, 0)) (by (with_reducible repeat (first | refine blk_drewN ?_ _ | refine blk_drew ?_ | refine blk_alloc ?_ _)); exact BK701.out) hb)
   have n19_ := Aside0.mk (below_step (by repeat (first | with_reducible exact HB.out | apply ba | apply bn | apply b1 | refine below_set ?_ GE674.out | refine below_set ?_ GE683.out | refine below_set ?_ GE692.out | refine below_set ?_ GE701.out)) hb)
   clear HO669
   clear HO672
   clear HO678
   clear HO681
   clear HO687
   clear HO690
   clear HO696
   clear HO699
   clear HO705
   clear HO708
   clear HO713
   clear HO716
   clear HO721
   clear HO724
   clear HO728
   clear BK674
   clear BK683
   clear BK692
   clear BK701
   clear HB
   have HO669 := n0_
   have HO672 := n1_
   have HO678 := n2_
   have HO681 := n3_
   have HO687 := n4_
   have HO690 := n5_
   have HO696 := n6_
   have HO699 := n7_
   have HO705 := n8_
   have HO708 := n9_
   have HO713 := n10_
   have HO716 := n11_
   have HO721 := n12_
   have HO724 := n13_
   have HO728 := n14_
   have BK674 := n15_
   have BK683 := n16_
   have BK692 := n17_
   have BK701 := n18_
   have HB := n19_
   clear n0_ n1_ n2_ n3_ n4_ n5_ n6_ n7_ n8_ n9_ n10_ n11_ n12_ n13_ n14_ n15_ n16_ n17_ n18_ n19_
   (try clear hb)
   (try clear hb2)
   (try clear hk)
   (try clear hi)
   refine hK.out _ _ ⟨(blk_cell BK674.out 0).trans rfl, (blk_cell BK674.out 1).trans rfl, (blk_cell BK674.out 2).trans rfl, (blk_cell BK683.out 0).trans rfl, (blk_cell BK683.out 1).trans rfl, (blk_cell BK683.out 2).trans rfl⟩ (fun hHeld => ?_)
   clear hK K
   refine norm_ (a' := ?_) ?_ ?_
   rotate_left
   ·show Act.put _ (some 56) _ = _
    simp only [Act.put, s0, s1, s2, i64_w, i32_w]
    rfl
   refine pure_ (i := 32) (N := some 57) (v := ?_) (a' := ?_) #[true, true, true, true, true, true, true, true, true, true, true, true, true, true, true, true, true, true, true, true, true, true, true, true, true, true, true, true, true, true, true, true, true, false, false] rfl rfl (any_of HT_.out (by kernel_rfl)) (fun _ _ _ h => h) (Or.inl ⟨by rfl, ?_⟩) ?_ ?_
   rotate_left
   ·intro w'
    go_simp
    with_reducible rfl
   rotate_left
   ·simp only [Act.put, s0, s1, s2, i64_w, i32_w]
    rfl
   refine pure_ (i := 33) (N := some 58) (v := ?_) (a' := ?_) #[true, true, true, true, true, true, true, true, true, true, true, true, true, true, true, true, true, true, true, true, true, true, true, true, true, true, true, true, true, true, true, true, true, true, false] rfl rfl (any_of HT_.out (by kernel_rfl)) (fun _ _ _ h => h) (Or.inl ⟨by rfl, ?_⟩) ?_ ?_
   rotate_left
   ·intro w'
    go_simp
    with_reducible rfl
   rotate_left
   ·simp only [Act.put, s0, s1, s2, i64_w, i32_w]
    rfl
   refine pure_ (i := 34) (N := some 0) (v := ?_) (a' := ?_) #[true, true, true, true, true, true, true, true, true, true, true, true, true, true, true, true, true, true, true, true, true, true, true, true, true, true, true, true, true, true, true, true, true, true, true] rfl rfl (any_of HT_.out (by kernel_rfl)) (fun _ _ _ h => h) (Or.inl ⟨by rfl, ?_⟩) ?_ ?_
   rotate_left
   ·intro w'
    go_simp
    with_reducible rfl
   rotate_left
   ·simp only [Act.put, s0, s1, s2, i64_w, i32_w]
    rfl
   refine done_ (done_of HT_.out (by kernel_rfl)) ?_
   try go_wp2
   go_ret
   exact ⟨by first | rfl | (simp [errW_none, errW_some] <;> rfl) | (simp [*, errW_none, errW_some] <;> rfl), by repeat (first | with_reducible exact HB.out | apply ba | apply bn | apply b1 | refine below_set ?_ GE674.out | refine below_set ?_ GE683.out | refine below_set ?_ GE692.out | refine below_set ?_ GE701.out)⟩
  ·replace c12 := Bool.eq_false_iff.mpr c12
   subst c12
   rw [if_neg (show ¬ (false = true) by decide)] at H
   exact absurd H (by simp)
 ·replace c8 := Bool.eq_false_iff.mpr c8
  subst c8
  rw [if_neg (show ¬ (false = true) by decide)] at H
  exact absurd H (by simp)
end Go.Proofs.YtncdiodnbkhacaaDoor.Pq
end
section
namespace Go.Proofs.YtncdiodnbkhacaaDoor.Pq
open Go.RowKit Go.Proofs.YtncdiodnbkhacaaDoorW.PrintWords Go.Proofs.YtncdiodnbkhacaaDoorW.PrintLast Go.Proofs.YtncdiodnbkhacaaDoorW.PrintMore
attribute [local go_sem] max2_int min2_int max_two min_two max_three min_three max_four min_four
set_option linter.unusedVariables false
set_option linter.unusedSimpArgs false
set_option maxHeartbeats 8000000 in
set_option maxRecDepth 100000 in
theorem penumbralaw04_DecimalTens.calls (k : Nat) (A0 : Option Addr) (c0 : Nat) (l0 : List Int) (r : Bool) (w : World) (hr0 : Kd.C (Kd.int .u32) w A0 l0.length l0) (hc0 : l0.length ≤ c0) (h : penumbralaw04_DecimalTens.f k l0 = some r) :
  Calls Tryd.prog 5 #[.slice A0 l0.length c0] w fun e w' => e = .returned (.bool r) ∧ Below w.heap.size w w' := by
 have HR0 := Aside0.mk hr0
 have HC0 := Aside0.mk hc0
 clear hr0 hc0
 have HB := Aside0.mk (Below.refl w.heap.size w)
 have H : ((penumbralaw04_fixed.f k).bind fun t877 => (if t877 = true then (penumbralaw04_DecimalTens.j0 k l0 (decide ((l0.length : Int) > 100))) else (penumbralaw04_DecimalTens.j0 k l0 true))) = some r := h
 clear h
 have HC2 := Aside0.mk H
 clear H
 go_enter Tryd.func5, Tryd.ntmps5
 go_upto_region 1 with (fail)
 go_cut [11] (fun v11 wc => ∃ (kq : Nat) (x11_1 : Bool), v11 = .bool x11_1 ∧ Aside0 (penumbralaw04_DecimalTens.j0 kq l0 x11_1 = some r) ∧ Aside0 (kq ≤ k) ∧ Aside0 (Below w.heap.size w wc))
 case first =>
  have H := HC2.out
  clear HC2
  replace H := Option.bind_eq_some_iff.mp H
  obtain ⟨t877, A30, H⟩ := H
  try dsimp only at H
  have A3 := Aside0.mk A30
  clear A30
  by_cases c4 : t877 = true
  ·subst c4
   rw [if_pos rfl] at H
   have H' := Aside0.mk H
   clear H
   go_wp2_with (first | ((have gd_ := A3); (with_reducible refine gate_callee (f := 8) rfl ?_); refine goesL_ (some 5) rfl rfl Tryd.func8 (by kernel_rfl) rfl #[] rfl (by (try simp only [List.map_toArray, List.map_cons, List.map_nil]); first | done | rfl) ?_; (with_reducible refine (penumbralaw04_fixed.calls k  true _ A3.out).mono ?_); rintro e w5 ⟨rfl, hb⟩; refine ⟨_, rfl, ?_⟩; have n0_ := Aside0.mk (below_step (by repeat (first | with_reducible exact HB.out | apply ba | apply bn | apply b1)) hb); clear HB; have HB := n0_; clear n0_; (clear gd_ A3)) )
   go_meet
   case rel => exact ⟨_, (decide ((l0.length : Int) > 100)), (by first | rfl | (simp; done) | (simp [*]; done)), H', ⟨by first | omega | exact Nat.le_refl _⟩, ⟨by repeat (first | with_reducible exact HB.out | apply ba | apply bn | apply b1)⟩⟩
  ·replace c4 := Bool.eq_false_iff.mpr c4
   subst c4
   rw [if_neg (show ¬ (false = true) by decide)] at H
   have H' := Aside0.mk H
   clear H
   go_wp2_with (first | ((have gd_ := A3); (with_reducible refine gate_callee (f := 8) rfl ?_); refine goesL_ (some 5) rfl rfl Tryd.func8 (by kernel_rfl) rfl #[] rfl (by (try simp only [List.map_toArray, List.map_cons, List.map_nil]); first | done | rfl) ?_; (with_reducible refine (penumbralaw04_fixed.calls k  false _ A3.out).mono ?_); rintro e w6 ⟨rfl, hb⟩; refine ⟨_, rfl, ?_⟩; have n0_ := Aside0.mk (below_step (by repeat (first | with_reducible exact HB.out | apply ba | apply bn | apply b1)) hb); clear HB; have HB := n0_; clear n0_; (clear gd_ A3)) )
   go_meet
   case rel => exact ⟨_, (true), (by first | rfl | (simp; done) | (simp [*]; done)), H', ⟨by first | omega | exact Nat.le_refl _⟩, ⟨by repeat (first | with_reducible exact HB.out | apply ba | apply bn | apply b1)⟩⟩
 case rest =>
  clear HC2
  obtain ⟨kq, x11_1, rfl, HA, HJ1, HB⟩ := hcut
  cases kq with
  | zero => exact absurd HA.out (by simp [penumbralaw04_DecimalTens.j0])
  | succ kj1 =>
   have H := HA.out
   clear HA
   simp only [penumbralaw04_DecimalTens.j0] at H
   by_cases c7 : x11_1 = true
   ·subst c7
    rw [if_pos rfl] at H
    replace H := Option.bind_eq_some_iff.mp H
    obtain ⟨t878, A80, H⟩ := H
    try dsimp only at H
    have A8 := Aside0.mk A80
    clear A80
    obtain rfl := Option.some.inj H
    go_wp2_with (first | ((have gd_ := A8); (with_reducible refine gate_callee (f := 8) rfl ?_); refine goesL_ (some 12) rfl rfl Tryd.func8 (by kernel_rfl) rfl #[] rfl (by (try simp only [List.map_toArray, List.map_cons, List.map_nil]); first | done | rfl) ?_; (with_reducible refine (penumbralaw04_fixed.calls kj1  t878 _ A8.out).mono ?_); rintro e w9 ⟨rfl, hb⟩; refine ⟨_, rfl, ?_⟩; have n0_ := Aside0.mk (below_step (by repeat (first | with_reducible exact HB.out | apply ba | apply bn | apply b1)) hb); clear HB; have HB := n0_; clear n0_; (clear gd_ A8)) )
    go_ret
    exact ⟨by first | rfl | (simp [errW_none, errW_some] <;> rfl) | (simp [*, errW_none, errW_some] <;> rfl), by repeat (first | with_reducible exact HB.out | apply ba | apply bn | apply b1)⟩
   ·replace c7 := Bool.eq_false_iff.mpr c7
    subst c7
    rw [if_neg (show ¬ (false = true) by decide)] at H
    replace H := Option.bind_eq_some_iff.mp H
    obtain ⟨t879, A100, H⟩ := H
    try dsimp only at H
    have A10 := Aside0.mk A100
    clear A100
    obtain ⟨y880, hy880⟩ : ∃ y_ : List Int, y_ = (([10] : List Int)) := ⟨_, rfl⟩
    replace H : ((nat_Mul.f kj1 l0 y880).bind fun t883 => ((decimal_Natural.f kj1 t883).bind fun t886 => (if t879.toList = ([48] : List UInt8) then (if t886.toList = ([48] : List UInt8) then ((nat_Norm.f l0).bind fun t887 => (some ((t887.length : Int) == 0))) else (some false)) else (if t879.toList = ([] : List UInt8) then (some false) else (if 0 < (t879.size : Int) then (if (bt t879 0) = 48 then (some false) else (if t879.size + 1 ≤ 9223372036854775807 then (some (t886.toList == (t879 ++ (⟨#[48]⟩ : ByteArray)).toList)) else (none))) else (none)))))) = some r := by first | (rw [hy880]; with_reducible exact H) | (have H2_ := (Option.bind_some _ _).symm.trans H; rw [hy880]; with_reducible exact H2_) | (have H2_ := (Option.bind_some _ _).symm.trans H; with_reducible exact H2_) | with_reducible exact H | (rw [hy880]; exact H) | exact H
    have Ny880 := Aside0.mk hy880
    clear hy880
    replace H := Option.bind_eq_some_iff.mp H
    obtain ⟨t883, A110, H⟩ := H
    try dsimp only at H
    have A11 := Aside0.mk A110
    clear A110
    replace H := Option.bind_eq_some_iff.mp H
    obtain ⟨t886, A120, H⟩ := H
    try dsimp only at H
    have A12 := Aside0.mk A120
    clear A120
    by_cases c13 : t879.toList = ([48] : List UInt8)
    ·rw [if_pos c13] at H
     have c13b0 : (t879.toList == ([48] : List UInt8)) = true := beq_iff_eq.mpr c13
     have c13b1 : (t879.toList != ([48] : List UInt8)) = false := bne_eq_false_iff_eq.mpr c13
     clear c13
     by_cases c14 : t886.toList = ([48] : List UInt8)
     ·rw [if_pos c14] at H
      have c14b0 : (t886.toList == ([48] : List UInt8)) = true := beq_iff_eq.mpr c14
      have c14b1 : (t886.toList != ([48] : List UInt8)) = false := bne_eq_false_iff_eq.mpr c14
      clear c14
      replace H := Option.bind_eq_some_iff.mp H
      obtain ⟨t887, A150, H⟩ := H
      try dsimp only at H
      have A15 := Aside0.mk A150
      clear A150
      obtain rfl := Option.some.inj H
      go_wp2_with (first | ((have gd_ := A10); (with_reducible refine gate_callee (f := 14) rfl ?_); refine goesL_ (some 14) rfl rfl Tryd.func14 (by kernel_rfl) rfl #[.slice A0 l0.length c0] rfl (by (try simp only [List.map_toArray, List.map_cons, List.map_nil]); first | done | rfl) ?_; (with_reducible refine (decimal_Natural.calls kj1 _ _ l0 t879 _ ?side1 ?side2 A10.out).mono ?_); (case side1 => repeat (first | exact (Kd.C_below HR0.out HB.out) | (with_reducible refine Kd.C_alloc ?_ _) | (with_reducible refine Kd.C_drewN ?_ _) | (with_reducible refine Kd.C_drew ?_))); (case side2 => exact HC0.out); rintro e w16 ⟨rfl, hb⟩; refine ⟨_, rfl, ?_⟩; have n0_ := Aside0.mk (below_step (by repeat (first | with_reducible exact HB.out | apply ba | apply bn | apply b1)) hb); clear HB; have HB := n0_; clear n0_; (clear gd_ A10)) | ((with_reducible refine gate_dst (N := 16) rfl ?_); (try (refine gate_guard (by rfl) ?_; dsimp only)); refine Kd.R_lit (Kd.int .u32) _ 35 ?hg (N := 16) ?hd (xs := ([10] : List Int)) (inner := [.int .u32 10]) (ok := fun _ => True) (okp := fun _ => True) ?hr ?hp (fun _ hk => hk) trivial (Below.refl _ _) (Nat.le_refl _) (by simp) ?_; (case hd => rfl); (case hg => rfl); (case hr => first | (go_simp; done) | (go_simp; (with_reducible rfl)) | (go_simp; rfl) | (go_simp; simp only [hu, Int.emod_sub_emod])); (case hp => exact (Reps.one (show Kd.M (Kd.int .u32) _ _ _ 10 [.int .u32 10] from rfl) (Reps.none _ _))); intro v881 w17 ho18 hb hg_ hnew_; clear hg_ hnew_; (first | rw [← Ny880.out] at ho18 | (simp only [Int.reduceToNat] at ho18; rw [← Ny880.out] at ho18)); have n0_ := Aside0.mk (Kd.R_lower ho18 (below_size (by repeat (first | with_reducible exact HB.out | apply ba | apply bn | apply b1)))); have n1_ := Aside0.mk (below_step (by repeat (first | with_reducible exact HB.out | apply ba | apply bn | apply b1)) hb); clear HB; have HO882 := n0_; have HB := n1_; clear n0_ n1_; clear hb ho18; obtain ⟨Ao19, co19, eo19⟩ := Kd.R_slice HO882.out; subst eo19) | ((have gd_ := A11); (with_reducible refine gate_callee (f := 16) rfl ?_); refine goesL_ (some 17) rfl rfl Tryd.func16 (by kernel_rfl) rfl #[.slice A0 l0.length c0, .slice Ao19 y880.length co19] rfl (by (try simp only [List.map_toArray, List.map_cons, List.map_nil]); first | done | rfl) ?_; (with_reducible refine (nat_Mul.calls kj1 _ _ l0 _ _ y880 t883 _ ?side1 ?side2 ?side3 ?side4 A11.out).mono ?_); (case side1 => repeat (first | exact (Kd.C_below HR0.out HB.out) | (with_reducible refine Kd.C_alloc ?_ _) | (with_reducible refine Kd.C_drewN ?_ _) | (with_reducible refine Kd.C_drew ?_))); (case side2 => exact HC0.out); (case side3 => repeat (first | exact (Kd.R_reads' HO882.out).2.2 | (with_reducible refine Kd.C_alloc ?_ _) | (with_reducible refine Kd.C_drewN ?_ _) | (with_reducible refine Kd.C_drew ?_))); (case side4 => exact (Kd.R_reads' HO882.out).2.1); rintro e w20 ⟨v884, rfl, ho0, hb⟩; refine ⟨_, rfl, ?_⟩; have n0_ := Aside0.mk (Kd.R_elder' (by (with_reducible repeat (first | apply Ra | apply Rn | apply Rd)); exact HO882.out) (Kd.R_base ho0) hb); have n1_ := Aside0.mk (Kd.R_lower (Kd.R_new' ho0 (Kd.R_lt (by (with_reducible repeat (first | apply Ra | apply Rn | apply Rd)); exact HO882.out))) (below_size (by repeat (first | with_reducible exact HB.out | apply ba | apply bn | apply b1)))); have n2_ := Aside0.mk (below_step (by repeat (first | with_reducible exact HB.out | apply ba | apply bn | apply b1)) hb); clear HO882; clear HB; have HO882 := n0_; have HO885 := n1_; have HB := n2_; clear n0_ n1_ n2_; obtain ⟨Ao21, co21, eo21⟩ := Kd.R_slice HO885.out; subst eo21; (clear gd_ A11)) | ((have gd_ := A12); (with_reducible refine gate_callee (f := 14) rfl ?_); refine goesL_ (some 18) rfl rfl Tryd.func14 (by kernel_rfl) rfl #[.slice Ao21 t883.length co21] rfl (by (try simp only [List.map_toArray, List.map_cons, List.map_nil]); first | done | rfl) ?_; (with_reducible refine (decimal_Natural.calls kj1 _ _ t883 t886 _ ?side1 ?side2 A12.out).mono ?_); (case side1 => repeat (first | exact (Kd.R_reads' HO885.out).2.2 | (with_reducible refine Kd.C_alloc ?_ _) | (with_reducible refine Kd.C_drewN ?_ _) | (with_reducible refine Kd.C_drew ?_))); (case side2 => exact (Kd.R_reads' HO885.out).2.1); rintro e w22 ⟨rfl, hb⟩; refine ⟨_, rfl, ?_⟩; have n0_ := Aside0.mk (Kd.R_below (by (with_reducible repeat (first | apply Ra | apply Rn | apply Rd)); exact HO882.out) hb); have n1_ := Aside0.mk (Kd.R_below (by (with_reducible repeat (first | apply Ra | apply Rn | apply Rd)); exact HO885.out) hb); have n2_ := Aside0.mk (below_step (by repeat (first | with_reducible exact HB.out | apply ba | apply bn | apply b1)) hb); clear HO882; clear HO885; clear HB; have HO882 := n0_; have HO885 := n1_; have HB := n2_; clear n0_ n1_ n2_; (clear gd_ A12)) | ((have gd_ := A15); go_at_call 17; (with_reducible refine (nat_Norm.calls _ _ l0 t887 _ ?side1 ?side2 A15.out).mono ?_); (case side1 => repeat (first | exact (Kd.C_below HR0.out HB.out) | (with_reducible refine Kd.C_alloc ?_ _) | (with_reducible refine Kd.C_drewN ?_ _) | (with_reducible refine Kd.C_drew ?_))); (case side2 => exact HC0.out); rintro e w23 ⟨v888, rfl, ho0, hb⟩; have n0_ := Aside0.mk (Kd.R_elder' (by (with_reducible repeat (first | apply Ra | apply Rn | apply Rd)); exact HO882.out) (Kd.R_base ho0) hb); have n1_ := Aside0.mk (Kd.R_elder' (by (with_reducible repeat (first | apply Ra | apply Rn | apply Rd)); exact HO885.out) (Kd.R_base ho0) hb); have n2_ := Aside0.mk (Kd.R_lower (Kd.R_new' (Kd.R_new' ho0 (Kd.R_lt (by (with_reducible repeat (first | apply Ra | apply Rn | apply Rd)); exact HO882.out))) (Kd.R_lt (by (with_reducible repeat (first | apply Ra | apply Rn | apply Rd)); exact HO885.out))) (below_size (by repeat (first | with_reducible exact HB.out | apply ba | apply bn | apply b1)))); have n3_ := Aside0.mk (below_step (by repeat (first | with_reducible exact HB.out | apply ba | apply bn | apply b1)) hb); clear HO882; clear HO885; clear HB; have HO882 := n0_; have HO885 := n1_; have HO889 := n2_; have HB := n3_; clear n0_ n1_ n2_ n3_; obtain ⟨Ao24, co24, eo24⟩ := Kd.R_slice HO889.out; subst eo24; (clear gd_ A15)) )
      go_ret
      exact ⟨by first | rfl | (simp [errW_none, errW_some] <;> rfl) | (simp [*, errW_none, errW_some] <;> rfl), by repeat (first | with_reducible exact HB.out | apply ba | apply bn | apply b1)⟩
     ·rw [if_neg c14] at H
      have c14b0 : (t886.toList == ([48] : List UInt8)) = false := beq_eq_false_iff_ne.mpr c14
      have c14b1 : (t886.toList != ([48] : List UInt8)) = true := bne_iff_ne.mpr c14
      obtain rfl := Option.some.inj H
      go_wp2_with (first | ((have gd_ := A10); (with_reducible refine gate_callee (f := 14) rfl ?_); refine goesL_ (some 14) rfl rfl Tryd.func14 (by kernel_rfl) rfl #[.slice A0 l0.length c0] rfl (by (try simp only [List.map_toArray, List.map_cons, List.map_nil]); first | done | rfl) ?_; (with_reducible refine (decimal_Natural.calls kj1 _ _ l0 t879 _ ?side1 ?side2 A10.out).mono ?_); (case side1 => repeat (first | exact (Kd.C_below HR0.out HB.out) | (with_reducible refine Kd.C_alloc ?_ _) | (with_reducible refine Kd.C_drewN ?_ _) | (with_reducible refine Kd.C_drew ?_))); (case side2 => exact HC0.out); rintro e w25 ⟨rfl, hb⟩; refine ⟨_, rfl, ?_⟩; have n0_ := Aside0.mk (below_step (by repeat (first | with_reducible exact HB.out | apply ba | apply bn | apply b1)) hb); clear HB; have HB := n0_; clear n0_; (clear gd_ A10)) | ((with_reducible refine gate_dst (N := 16) rfl ?_); (try (refine gate_guard (by rfl) ?_; dsimp only)); refine Kd.R_lit (Kd.int .u32) _ 35 ?hg (N := 16) ?hd (xs := ([10] : List Int)) (inner := [.int .u32 10]) (ok := fun _ => True) (okp := fun _ => True) ?hr ?hp (fun _ hk => hk) trivial (Below.refl _ _) (Nat.le_refl _) (by simp) ?_; (case hd => rfl); (case hg => rfl); (case hr => first | (go_simp; done) | (go_simp; (with_reducible rfl)) | (go_simp; rfl) | (go_simp; simp only [hu, Int.emod_sub_emod])); (case hp => exact (Reps.one (show Kd.M (Kd.int .u32) _ _ _ 10 [.int .u32 10] from rfl) (Reps.none _ _))); intro v881 w26 ho27 hb hg_ hnew_; clear hg_ hnew_; (first | rw [← Ny880.out] at ho27 | (simp only [Int.reduceToNat] at ho27; rw [← Ny880.out] at ho27)); have n0_ := Aside0.mk (Kd.R_lower ho27 (below_size (by repeat (first | with_reducible exact HB.out | apply ba | apply bn | apply b1)))); have n1_ := Aside0.mk (below_step (by repeat (first | with_reducible exact HB.out | apply ba | apply bn | apply b1)) hb); clear HB; have HO882 := n0_; have HB := n1_; clear n0_ n1_; clear hb ho27; obtain ⟨Ao28, co28, eo28⟩ := Kd.R_slice HO882.out; subst eo28) | ((have gd_ := A11); (with_reducible refine gate_callee (f := 16) rfl ?_); refine goesL_ (some 17) rfl rfl Tryd.func16 (by kernel_rfl) rfl #[.slice A0 l0.length c0, .slice Ao28 y880.length co28] rfl (by (try simp only [List.map_toArray, List.map_cons, List.map_nil]); first | done | rfl) ?_; (with_reducible refine (nat_Mul.calls kj1 _ _ l0 _ _ y880 t883 _ ?side1 ?side2 ?side3 ?side4 A11.out).mono ?_); (case side1 => repeat (first | exact (Kd.C_below HR0.out HB.out) | (with_reducible refine Kd.C_alloc ?_ _) | (with_reducible refine Kd.C_drewN ?_ _) | (with_reducible refine Kd.C_drew ?_))); (case side2 => exact HC0.out); (case side3 => repeat (first | exact (Kd.R_reads' HO882.out).2.2 | (with_reducible refine Kd.C_alloc ?_ _) | (with_reducible refine Kd.C_drewN ?_ _) | (with_reducible refine Kd.C_drew ?_))); (case side4 => exact (Kd.R_reads' HO882.out).2.1); rintro e w29 ⟨v884, rfl, ho0, hb⟩; refine ⟨_, rfl, ?_⟩; have n0_ := Aside0.mk (Kd.R_elder' (by (with_reducible repeat (first | apply Ra | apply Rn | apply Rd)); exact HO882.out) (Kd.R_base ho0) hb); have n1_ := Aside0.mk (Kd.R_lower (Kd.R_new' ho0 (Kd.R_lt (by (with_reducible repeat (first | apply Ra | apply Rn | apply Rd)); exact HO882.out))) (below_size (by repeat (first | with_reducible exact HB.out | apply ba | apply bn | apply b1)))); have n2_ := Aside0.mk (below_step (by repeat (first | with_reducible exact HB.out | apply ba | apply bn | apply b1)) hb); clear HO882; clear HB; have HO882 := n0_; have HO885 := n1_; have HB := n2_; clear n0_ n1_ n2_; obtain ⟨Ao30, co30, eo30⟩ := Kd.R_slice HO885.out; subst eo30; (clear gd_ A11)) | ((have gd_ := A12); (with_reducible refine gate_callee (f := 14) rfl ?_); refine goesL_ (some 18) rfl rfl Tryd.func14 (by kernel_rfl) rfl #[.slice Ao30 t883.length co30] rfl (by (try simp only [List.map_toArray, List.map_cons, List.map_nil]); first | done | rfl) ?_; (with_reducible refine (decimal_Natural.calls kj1 _ _ t883 t886 _ ?side1 ?side2 A12.out).mono ?_); (case side1 => repeat (first | exact (Kd.R_reads' HO885.out).2.2 | (with_reducible refine Kd.C_alloc ?_ _) | (with_reducible refine Kd.C_drewN ?_ _) | (with_reducible refine Kd.C_drew ?_))); (case side2 => exact (Kd.R_reads' HO885.out).2.1); rintro e w31 ⟨rfl, hb⟩; refine ⟨_, rfl, ?_⟩; have n0_ := Aside0.mk (Kd.R_below (by (with_reducible repeat (first | apply Ra | apply Rn | apply Rd)); exact HO882.out) hb); have n1_ := Aside0.mk (Kd.R_below (by (with_reducible repeat (first | apply Ra | apply Rn | apply Rd)); exact HO885.out) hb); have n2_ := Aside0.mk (below_step (by repeat (first | with_reducible exact HB.out | apply ba | apply bn | apply b1)) hb); clear HO882; clear HO885; clear HB; have HO882 := n0_; have HO885 := n1_; have HB := n2_; clear n0_ n1_ n2_; (clear gd_ A12)) )
      go_ret
      exact ⟨by first | rfl | (simp [errW_none, errW_some] <;> rfl) | (simp [*, errW_none, errW_some] <;> rfl), by repeat (first | with_reducible exact HB.out | apply ba | apply bn | apply b1)⟩
    ·rw [if_neg c13] at H
     have c13b0 : (t879.toList == ([48] : List UInt8)) = false := beq_eq_false_iff_ne.mpr c13
     have c13b1 : (t879.toList != ([48] : List UInt8)) = true := bne_iff_ne.mpr c13
     by_cases c32 : t879.toList = ([] : List UInt8)
     ·rw [if_pos c32] at H
      have c32b0 : (t879.toList == ([] : List UInt8)) = true := beq_iff_eq.mpr c32
      have c32b1 : (t879.toList != ([] : List UInt8)) = false := bne_eq_false_iff_eq.mpr c32
      clear c32
      obtain rfl := Option.some.inj H
      go_wp2_with (first | ((have gd_ := A10); (with_reducible refine gate_callee (f := 14) rfl ?_); refine goesL_ (some 14) rfl rfl Tryd.func14 (by kernel_rfl) rfl #[.slice A0 l0.length c0] rfl (by (try simp only [List.map_toArray, List.map_cons, List.map_nil]); first | done | rfl) ?_; (with_reducible refine (decimal_Natural.calls kj1 _ _ l0 t879 _ ?side1 ?side2 A10.out).mono ?_); (case side1 => repeat (first | exact (Kd.C_below HR0.out HB.out) | (with_reducible refine Kd.C_alloc ?_ _) | (with_reducible refine Kd.C_drewN ?_ _) | (with_reducible refine Kd.C_drew ?_))); (case side2 => exact HC0.out); rintro e w33 ⟨rfl, hb⟩; refine ⟨_, rfl, ?_⟩; have n0_ := Aside0.mk (below_step (by repeat (first | with_reducible exact HB.out | apply ba | apply bn | apply b1)) hb); clear HB; have HB := n0_; clear n0_; (clear gd_ A10)) | ((with_reducible refine gate_dst (N := 16) rfl ?_); (try (refine gate_guard (by rfl) ?_; dsimp only)); refine Kd.R_lit (Kd.int .u32) _ 35 ?hg (N := 16) ?hd (xs := ([10] : List Int)) (inner := [.int .u32 10]) (ok := fun _ => True) (okp := fun _ => True) ?hr ?hp (fun _ hk => hk) trivial (Below.refl _ _) (Nat.le_refl _) (by simp) ?_; (case hd => rfl); (case hg => rfl); (case hr => first | (go_simp; done) | (go_simp; (with_reducible rfl)) | (go_simp; rfl) | (go_simp; simp only [hu, Int.emod_sub_emod])); (case hp => exact (Reps.one (show Kd.M (Kd.int .u32) _ _ _ 10 [.int .u32 10] from rfl) (Reps.none _ _))); intro v881 w34 ho35 hb hg_ hnew_; clear hg_ hnew_; (first | rw [← Ny880.out] at ho35 | (simp only [Int.reduceToNat] at ho35; rw [← Ny880.out] at ho35)); have n0_ := Aside0.mk (Kd.R_lower ho35 (below_size (by repeat (first | with_reducible exact HB.out | apply ba | apply bn | apply b1)))); have n1_ := Aside0.mk (below_step (by repeat (first | with_reducible exact HB.out | apply ba | apply bn | apply b1)) hb); clear HB; have HO882 := n0_; have HB := n1_; clear n0_ n1_; clear hb ho35; obtain ⟨Ao36, co36, eo36⟩ := Kd.R_slice HO882.out; subst eo36) | ((have gd_ := A11); (with_reducible refine gate_callee (f := 16) rfl ?_); refine goesL_ (some 17) rfl rfl Tryd.func16 (by kernel_rfl) rfl #[.slice A0 l0.length c0, .slice Ao36 y880.length co36] rfl (by (try simp only [List.map_toArray, List.map_cons, List.map_nil]); first | done | rfl) ?_; (with_reducible refine (nat_Mul.calls kj1 _ _ l0 _ _ y880 t883 _ ?side1 ?side2 ?side3 ?side4 A11.out).mono ?_); (case side1 => repeat (first | exact (Kd.C_below HR0.out HB.out) | (with_reducible refine Kd.C_alloc ?_ _) | (with_reducible refine Kd.C_drewN ?_ _) | (with_reducible refine Kd.C_drew ?_))); (case side2 => exact HC0.out); (case side3 => repeat (first | exact (Kd.R_reads' HO882.out).2.2 | (with_reducible refine Kd.C_alloc ?_ _) | (with_reducible refine Kd.C_drewN ?_ _) | (with_reducible refine Kd.C_drew ?_))); (case side4 => exact (Kd.R_reads' HO882.out).2.1); rintro e w37 ⟨v884, rfl, ho0, hb⟩; refine ⟨_, rfl, ?_⟩; have n0_ := Aside0.mk (Kd.R_elder' (by (with_reducible repeat (first | apply Ra | apply Rn | apply Rd)); exact HO882.out) (Kd.R_base ho0) hb); have n1_ := Aside0.mk (Kd.R_lower (Kd.R_new' ho0 (Kd.R_lt (by (with_reducible repeat (first | apply Ra | apply Rn | apply Rd)); exact HO882.out))) (below_size (by repeat (first | with_reducible exact HB.out | apply ba | apply bn | apply b1)))); have n2_ := Aside0.mk (below_step (by repeat (first | with_reducible exact HB.out | apply ba | apply bn | apply b1)) hb); clear HO882; clear HB; have HO882 := n0_; have HO885 := n1_; have HB := n2_; clear n0_ n1_ n2_; obtain ⟨Ao38, co38, eo38⟩ := Kd.R_slice HO885.out; subst eo38; (clear gd_ A11)) | ((have gd_ := A12); (with_reducible refine gate_callee (f := 14) rfl ?_); refine goesL_ (some 18) rfl rfl Tryd.func14 (by kernel_rfl) rfl #[.slice Ao38 t883.length co38] rfl (by (try simp only [List.map_toArray, List.map_cons, List.map_nil]); first | done | rfl) ?_; (with_reducible refine (decimal_Natural.calls kj1 _ _ t883 t886 _ ?side1 ?side2 A12.out).mono ?_); (case side1 => repeat (first | exact (Kd.R_reads' HO885.out).2.2 | (with_reducible refine Kd.C_alloc ?_ _) | (with_reducible refine Kd.C_drewN ?_ _) | (with_reducible refine Kd.C_drew ?_))); (case side2 => exact (Kd.R_reads' HO885.out).2.1); rintro e w39 ⟨rfl, hb⟩; refine ⟨_, rfl, ?_⟩; have n0_ := Aside0.mk (Kd.R_below (by (with_reducible repeat (first | apply Ra | apply Rn | apply Rd)); exact HO882.out) hb); have n1_ := Aside0.mk (Kd.R_below (by (with_reducible repeat (first | apply Ra | apply Rn | apply Rd)); exact HO885.out) hb); have n2_ := Aside0.mk (below_step (by repeat (first | with_reducible exact HB.out | apply ba | apply bn | apply b1)) hb); clear HO882; clear HO885; clear HB; have HO882 := n0_; have HO885 := n1_; have HB := n2_; clear n0_ n1_ n2_; (clear gd_ A12)) )
      go_ret
      exact ⟨by first | rfl | (simp [errW_none, errW_some] <;> rfl) | (simp [*, errW_none, errW_some] <;> rfl), by repeat (first | with_reducible exact HB.out | apply ba | apply bn | apply b1)⟩
     ·rw [if_neg c32] at H
      have c32b0 : (t879.toList == ([] : List UInt8)) = false := beq_eq_false_iff_ne.mpr c32
      have c32b1 : (t879.toList != ([] : List UInt8)) = true := bne_iff_ne.mpr c32
      by_cases c40 : 0 < (t879.size : Int)
      case neg =>rw [if_neg c40] at H;exact absurd H (by simp)
      rw [if_pos c40] at H
      have c40b0 : decide (0 < (t879.size : Int)) = true := decide_eq_true c40
      have c40b1 : decide (0 < t879.size) = true := decide_eq_true (by omega)
      clear c40
      by_cases c42 : (bt t879 0) = 48
      ·rw [if_pos c42] at H
       have c42b0 : ((bt t879 0) == 48) = true := beq_iff_eq.mpr c42
       have c42b1 : ((bt t879 0) != 48) = false := bne_eq_false_iff_eq.mpr c42
       clear c42
       obtain rfl := Option.some.inj H
       go_wp2_with (first | ((have gd_ := A10); (with_reducible refine gate_callee (f := 14) rfl ?_); refine goesL_ (some 14) rfl rfl Tryd.func14 (by kernel_rfl) rfl #[.slice A0 l0.length c0] rfl (by (try simp only [List.map_toArray, List.map_cons, List.map_nil]); first | done | rfl) ?_; (with_reducible refine (decimal_Natural.calls kj1 _ _ l0 t879 _ ?side1 ?side2 A10.out).mono ?_); (case side1 => repeat (first | exact (Kd.C_below HR0.out HB.out) | (with_reducible refine Kd.C_alloc ?_ _) | (with_reducible refine Kd.C_drewN ?_ _) | (with_reducible refine Kd.C_drew ?_))); (case side2 => exact HC0.out); rintro e w43 ⟨rfl, hb⟩; refine ⟨_, rfl, ?_⟩; have n0_ := Aside0.mk (below_step (by repeat (first | with_reducible exact HB.out | apply ba | apply bn | apply b1)) hb); clear HB; have HB := n0_; clear n0_; (clear gd_ A10)) | ((with_reducible refine gate_dst (N := 16) rfl ?_); (try (refine gate_guard (by rfl) ?_; dsimp only)); refine Kd.R_lit (Kd.int .u32) _ 35 ?hg (N := 16) ?hd (xs := ([10] : List Int)) (inner := [.int .u32 10]) (ok := fun _ => True) (okp := fun _ => True) ?hr ?hp (fun _ hk => hk) trivial (Below.refl _ _) (Nat.le_refl _) (by simp) ?_; (case hd => rfl); (case hg => rfl); (case hr => first | (go_simp; done) | (go_simp; (with_reducible rfl)) | (go_simp; rfl) | (go_simp; simp only [hu, Int.emod_sub_emod])); (case hp => exact (Reps.one (show Kd.M (Kd.int .u32) _ _ _ 10 [.int .u32 10] from rfl) (Reps.none _ _))); intro v881 w44 ho45 hb hg_ hnew_; clear hg_ hnew_; (first | rw [← Ny880.out] at ho45 | (simp only [Int.reduceToNat] at ho45; rw [← Ny880.out] at ho45)); have n0_ := Aside0.mk (Kd.R_lower ho45 (below_size (by repeat (first | with_reducible exact HB.out | apply ba | apply bn | apply b1)))); have n1_ := Aside0.mk (below_step (by repeat (first | with_reducible exact HB.out | apply ba | apply bn | apply b1)) hb); clear HB; have HO882 := n0_; have HB := n1_; clear n0_ n1_; clear hb ho45; obtain ⟨Ao46, co46, eo46⟩ := Kd.R_slice HO882.out; subst eo46) | ((have gd_ := A11); (with_reducible refine gate_callee (f := 16) rfl ?_); refine goesL_ (some 17) rfl rfl Tryd.func16 (by kernel_rfl) rfl #[.slice A0 l0.length c0, .slice Ao46 y880.length co46] rfl (by (try simp only [List.map_toArray, List.map_cons, List.map_nil]); first | done | rfl) ?_; (with_reducible refine (nat_Mul.calls kj1 _ _ l0 _ _ y880 t883 _ ?side1 ?side2 ?side3 ?side4 A11.out).mono ?_); (case side1 => repeat (first | exact (Kd.C_below HR0.out HB.out) | (with_reducible refine Kd.C_alloc ?_ _) | (with_reducible refine Kd.C_drewN ?_ _) | (with_reducible refine Kd.C_drew ?_))); (case side2 => exact HC0.out); (case side3 => repeat (first | exact (Kd.R_reads' HO882.out).2.2 | (with_reducible refine Kd.C_alloc ?_ _) | (with_reducible refine Kd.C_drewN ?_ _) | (with_reducible refine Kd.C_drew ?_))); (case side4 => exact (Kd.R_reads' HO882.out).2.1); rintro e w47 ⟨v884, rfl, ho0, hb⟩; refine ⟨_, rfl, ?_⟩; have n0_ := Aside0.mk (Kd.R_elder' (by (with_reducible repeat (first | apply Ra | apply Rn | apply Rd)); exact HO882.out) (Kd.R_base ho0) hb); have n1_ := Aside0.mk (Kd.R_lower (Kd.R_new' ho0 (Kd.R_lt (by (with_reducible repeat (first | apply Ra | apply Rn | apply Rd)); exact HO882.out))) (below_size (by repeat (first | with_reducible exact HB.out | apply ba | apply bn | apply b1)))); have n2_ := Aside0.mk (below_step (by repeat (first | with_reducible exact HB.out | apply ba | apply bn | apply b1)) hb); clear HO882; clear HB; have HO882 := n0_; have HO885 := n1_; have HB := n2_; clear n0_ n1_ n2_; obtain ⟨Ao48, co48, eo48⟩ := Kd.R_slice HO885.out; subst eo48; (clear gd_ A11)) | ((have gd_ := A12); (with_reducible refine gate_callee (f := 14) rfl ?_); refine goesL_ (some 18) rfl rfl Tryd.func14 (by kernel_rfl) rfl #[.slice Ao48 t883.length co48] rfl (by (try simp only [List.map_toArray, List.map_cons, List.map_nil]); first | done | rfl) ?_; (with_reducible refine (decimal_Natural.calls kj1 _ _ t883 t886 _ ?side1 ?side2 A12.out).mono ?_); (case side1 => repeat (first | exact (Kd.R_reads' HO885.out).2.2 | (with_reducible refine Kd.C_alloc ?_ _) | (with_reducible refine Kd.C_drewN ?_ _) | (with_reducible refine Kd.C_drew ?_))); (case side2 => exact (Kd.R_reads' HO885.out).2.1); rintro e w49 ⟨rfl, hb⟩; refine ⟨_, rfl, ?_⟩; have n0_ := Aside0.mk (Kd.R_below (by (with_reducible repeat (first | apply Ra | apply Rn | apply Rd)); exact HO882.out) hb); have n1_ := Aside0.mk (Kd.R_below (by (with_reducible repeat (first | apply Ra | apply Rn | apply Rd)); exact HO885.out) hb); have n2_ := Aside0.mk (below_step (by repeat (first | with_reducible exact HB.out | apply ba | apply bn | apply b1)) hb); clear HO882; clear HO885; clear HB; have HO882 := n0_; have HO885 := n1_; have HB := n2_; clear n0_ n1_ n2_; have p41 : 0 ≤ (0 : Int) := (by omega); have q41 : 0 < t879.size := (by have : (0 : Int) < (t879.size : Int) := of_decide_eq_true (by assumption); omega); have hx41 : ∀ h : 0 < t879.size, ((t879[0]'h).toNat : Int) = bt t879 0 := bt_at t879 0; clear p41; have qi41 : (0 < (t879.size : Int)) = True := eq_true (of_decide_eq_true (by assumption)); replace q41 := eq_true q41; (clear gd_ A12)) )
       go_ret
       exact ⟨by first | rfl | (simp [errW_none, errW_some] <;> rfl) | (simp [*, errW_none, errW_some] <;> rfl), by repeat (first | with_reducible exact HB.out | apply ba | apply bn | apply b1)⟩
      ·rw [if_neg c42] at H
       have c42b0 : ((bt t879 0) == 48) = false := beq_eq_false_iff_ne.mpr c42
       have c42b1 : ((bt t879 0) != 48) = true := bne_iff_ne.mpr c42
       by_cases c50 : t879.size + 1 ≤ 9223372036854775807
       case neg =>rw [if_neg c50] at H;exact absurd H (by simp)
       rw [if_pos c50] at H
       have c50b0 := eq_true c50
       have c50b1 : decide (t879.size + 1 ≤ 9223372036854775807) = true := decide_eq_true c50
       try have c50b2 : (9223372036854775807 < t879.size + 1) = False := eq_false (Nat.not_lt.2 c50)
       obtain rfl := Option.some.inj H
       go_wp2_with (first | ((have gd_ := A10); (with_reducible refine gate_callee (f := 14) rfl ?_); refine goesL_ (some 14) rfl rfl Tryd.func14 (by kernel_rfl) rfl #[.slice A0 l0.length c0] rfl (by (try simp only [List.map_toArray, List.map_cons, List.map_nil]); first | done | rfl) ?_; (with_reducible refine (decimal_Natural.calls kj1 _ _ l0 t879 _ ?side1 ?side2 A10.out).mono ?_); (case side1 => repeat (first | exact (Kd.C_below HR0.out HB.out) | (with_reducible refine Kd.C_alloc ?_ _) | (with_reducible refine Kd.C_drewN ?_ _) | (with_reducible refine Kd.C_drew ?_))); (case side2 => exact HC0.out); rintro e w51 ⟨rfl, hb⟩; refine ⟨_, rfl, ?_⟩; have n0_ := Aside0.mk (below_step (by repeat (first | with_reducible exact HB.out | apply ba | apply bn | apply b1)) hb); clear HB; have HB := n0_; clear n0_; (clear gd_ A10)) | ((with_reducible refine gate_dst (N := 16) rfl ?_); (try (refine gate_guard (by rfl) ?_; dsimp only)); refine Kd.R_lit (Kd.int .u32) _ 35 ?hg (N := 16) ?hd (xs := ([10] : List Int)) (inner := [.int .u32 10]) (ok := fun _ => True) (okp := fun _ => True) ?hr ?hp (fun _ hk => hk) trivial (Below.refl _ _) (Nat.le_refl _) (by simp) ?_; (case hd => rfl); (case hg => rfl); (case hr => first | (go_simp; done) | (go_simp; (with_reducible rfl)) | (go_simp; rfl) | (go_simp; simp only [hu, Int.emod_sub_emod])); (case hp => exact (Reps.one (show Kd.M (Kd.int .u32) _ _ _ 10 [.int .u32 10] from rfl) (Reps.none _ _))); intro v881 w52 ho53 hb hg_ hnew_; clear hg_ hnew_; (first | rw [← Ny880.out] at ho53 | (simp only [Int.reduceToNat] at ho53; rw [← Ny880.out] at ho53)); have n0_ := Aside0.mk (Kd.R_lower ho53 (below_size (by repeat (first | with_reducible exact HB.out | apply ba | apply bn | apply b1)))); have n1_ := Aside0.mk (below_step (by repeat (first | with_reducible exact HB.out | apply ba | apply bn | apply b1)) hb); clear HB; have HO882 := n0_; have HB := n1_; clear n0_ n1_; clear hb ho53; obtain ⟨Ao54, co54, eo54⟩ := Kd.R_slice HO882.out; subst eo54) | ((have gd_ := A11); (with_reducible refine gate_callee (f := 16) rfl ?_); refine goesL_ (some 17) rfl rfl Tryd.func16 (by kernel_rfl) rfl #[.slice A0 l0.length c0, .slice Ao54 y880.length co54] rfl (by (try simp only [List.map_toArray, List.map_cons, List.map_nil]); first | done | rfl) ?_; (with_reducible refine (nat_Mul.calls kj1 _ _ l0 _ _ y880 t883 _ ?side1 ?side2 ?side3 ?side4 A11.out).mono ?_); (case side1 => repeat (first | exact (Kd.C_below HR0.out HB.out) | (with_reducible refine Kd.C_alloc ?_ _) | (with_reducible refine Kd.C_drewN ?_ _) | (with_reducible refine Kd.C_drew ?_))); (case side2 => exact HC0.out); (case side3 => repeat (first | exact (Kd.R_reads' HO882.out).2.2 | (with_reducible refine Kd.C_alloc ?_ _) | (with_reducible refine Kd.C_drewN ?_ _) | (with_reducible refine Kd.C_drew ?_))); (case side4 => exact (Kd.R_reads' HO882.out).2.1); rintro e w55 ⟨v884, rfl, ho0, hb⟩; refine ⟨_, rfl, ?_⟩; have n0_ := Aside0.mk (Kd.R_elder' (by (with_reducible repeat (first | apply Ra | apply Rn | apply Rd)); exact HO882.out) (Kd.R_base ho0) hb); have n1_ := Aside0.mk (Kd.R_lower (Kd.R_new' ho0 (Kd.R_lt (by (with_reducible repeat (first | apply Ra | apply Rn | apply Rd)); exact HO882.out))) (below_size (by repeat (first | with_reducible exact HB.out | apply ba | apply bn | apply b1)))); have n2_ := Aside0.mk (below_step (by repeat (first | with_reducible exact HB.out | apply ba | apply bn | apply b1)) hb); clear HO882; clear HB; have HO882 := n0_; have HO885 := n1_; have HB := n2_; clear n0_ n1_ n2_; obtain ⟨Ao56, co56, eo56⟩ := Kd.R_slice HO885.out; subst eo56; (clear gd_ A11)) | ((have gd_ := A12); (with_reducible refine gate_callee (f := 14) rfl ?_); refine goesL_ (some 18) rfl rfl Tryd.func14 (by kernel_rfl) rfl #[.slice Ao56 t883.length co56] rfl (by (try simp only [List.map_toArray, List.map_cons, List.map_nil]); first | done | rfl) ?_; (with_reducible refine (decimal_Natural.calls kj1 _ _ t883 t886 _ ?side1 ?side2 A12.out).mono ?_); (case side1 => repeat (first | exact (Kd.R_reads' HO885.out).2.2 | (with_reducible refine Kd.C_alloc ?_ _) | (with_reducible refine Kd.C_drewN ?_ _) | (with_reducible refine Kd.C_drew ?_))); (case side2 => exact (Kd.R_reads' HO885.out).2.1); rintro e w57 ⟨rfl, hb⟩; refine ⟨_, rfl, ?_⟩; have n0_ := Aside0.mk (Kd.R_below (by (with_reducible repeat (first | apply Ra | apply Rn | apply Rd)); exact HO882.out) hb); have n1_ := Aside0.mk (Kd.R_below (by (with_reducible repeat (first | apply Ra | apply Rn | apply Rd)); exact HO885.out) hb); have n2_ := Aside0.mk (below_step (by repeat (first | with_reducible exact HB.out | apply ba | apply bn | apply b1)) hb); clear HO882; clear HO885; clear HB; have HO882 := n0_; have HO885 := n1_; have HB := n2_; clear n0_ n1_ n2_; have p41 : 0 ≤ (0 : Int) := (by omega); have q41 : 0 < t879.size := (by have : (0 : Int) < (t879.size : Int) := of_decide_eq_true (by assumption); omega); have hx41 : ∀ h : 0 < t879.size, ((t879[0]'h).toNat : Int) = bt t879 0 := bt_at t879 0; clear p41; have qi41 : (0 < (t879.size : Int)) = True := eq_true (of_decide_eq_true (by assumption)); replace q41 := eq_true q41; (clear gd_ A12)) )
       go_ret
       exact ⟨by first | rfl | (simp [errW_none, errW_some] <;> rfl) | (simp [*, errW_none, errW_some] <;> rfl), by repeat (first | with_reducible exact HB.out | apply ba | apply bn | apply b1)⟩
def penumbralaw04_DecimalTens.Pure : Prop := ∀ (l0 : List Int), l0.length ≤ maxLen → l0.length * 4 ≤ 140737488351232 → (∀ x ∈ l0, (Lit.int .u32 x).wf = true) → ∃ k, penumbralaw04_DecimalTens.f k l0 = some true
theorem penumbralaw04_DecimalTens.walk (P : penumbralaw04_DecimalTens.Pure) (a0 : Option Addr) (len0 cap0 : Nat) (z0 : List Int) (w : World) (w0 : (a0 = none ∧ len0 = 0 ∧ cap0 = 0 ∧ z0 = []) ∨ ∃ x, a0 = some x ∧ len0 ≤ cap0 ∧ cap0 ≤ maxLen ∧ z0.length = cap0 ∧ (∀ i, i < z0.length → w.cell? (x.add i) = some (.int .u32 (z0.getD i 0))) ∧ ∀ n ∈ z0, (Lit.int .u32 n).wf = true) (y0 : len0 * 4 ≤ 140737488351232) :
  Calls Tryd.prog 5 #[.slice a0 len0 cap0] w fun e w' => e = .returned (.bool true) ∧ Below w.heap.size w w' := by
 obtain ⟨l0, rfl, hr0, hm0, hw0, hc0⟩ := ReadsInt.ofRowC w0
 obtain ⟨k, h⟩ := P l0 hm0 y0 hw0
 refine (penumbralaw04_DecimalTens.calls k _ _ l0 true w (Kd.C_of_reads (d := (0 : Int)) (h1 := fun _ => rfl) hr0) hc0 h).mono ?_
 rintro e w' ⟨rfl, hd⟩
 exact ⟨rfl, hd⟩
end Go.Proofs.YtncdiodnbkhacaaDoor.Pq
end
section
namespace Go.Proofs.YtncdiodnbkhacaaDoor.N
set_option linter.unusedVariables false
set_option linter.unusedSimpArgs false
open Go.RowKit Go.Proofs.YtncdiodnbkhacaaDoorW.PrintWords
def V : List Int → Int
 | [] => 0
 | x :: l => x + 4294967296 * V l
def W (l : List Int) : Prop := ∀ x ∈ l, 0 ≤ x ∧ x < 4294967296
def P (n : Nat) : Int := 4294967296 ^ n
theorem P_zero : P 0 = 1 := rfl
theorem P_succ (n : Nat) : P (n + 1) = 4294967296 * P n := by unfold P; rw [Int.pow_succ, Int.mul_comm]
theorem P_pos (n : Nat) : 0 < P n := by
 induction n with
 | zero => decide
 | succ n ih => rw [P_succ]; omega
theorem P_add (m n : Nat) : P (m + n) = P m * P n := by unfold P; rw [Int.pow_add]
theorem P_one_le (n : Nat) : 1 ≤ P n := by have := P_pos n; omega
theorem P_le {m n : Nat} (h : m ≤ n) : P m ≤ P n := by
 obtain ⟨d, rfl⟩ := Nat.exists_eq_add_of_le h
 rw [P_add]
 have h1 := P_pos m
 have h2 := P_one_le d
 have h3 : P m * 1 ≤ P m * P d := Int.mul_le_mul_of_nonneg_left h2 (by omega)
 omega
theorem W_nil : W [] := fun _ h => by cases h
theorem W_cons {x : Int} {l : List Int} : W (x :: l) ↔ (0 ≤ x ∧ x < 4294967296) ∧ W l := by
 constructor
 ·exact fun h => ⟨h x (List.mem_cons_self ..), fun y hy => h y (List.mem_cons_of_mem _ hy)⟩
 ·rintro ⟨h1, h2⟩ y hy
  rcases List.mem_cons.1 hy with rfl | hy
  ·exact h1
  ·exact h2 y hy
theorem W_append {l m : List Int} (h : W l) (k : W m) : W (l ++ m) := fun x hx => by
 rcases List.mem_append.1 hx with hx | hx
 ·exact h x hx
 ·exact k x hx
theorem W_one {x : Int} (h0 : 0 ≤ x) (h1 : x < 4294967296) : W [x] := W_cons.2 ⟨⟨h0, h1⟩, W_nil⟩
theorem W_take {l : List Int} (h : W l) (n : Nat) : W (l.take n) := fun x hx => h x (List.mem_of_mem_take hx)
theorem W_drop {l : List Int} (h : W l) (n : Nat) : W (l.drop n) := fun x hx => h x (List.mem_of_mem_drop hx)
theorem W_set {l : List Int} (h : W l) (i : Nat) {x : Int} (h0 : 0 ≤ x) (h1 : x < 4294967296) : W (l.set i x) := fun y hy => by
 rcases List.mem_or_eq_of_mem_set hy with hy | rfl
 ·exact h y hy
 ·exact ⟨h0, h1⟩
theorem W_replicate (n : Nat) : W (List.replicate n 0) := fun x hx => by
 have := List.eq_of_mem_replicate hx
 omega
theorem W_rd {l : List Int} (h : W l) (i : Int) : 0 ≤ rd l i ∧ rd l i < 4294967296 := by
 unfold rd
 by_cases hi : i.toNat < l.length
 ·have e : l.getD i.toNat 0 = l[i.toNat] := by simp [List.getD_eq_getElem?_getD, hi]
  rw [e]
  exact h _ (List.getElem_mem hi)
 ·have e : l.getD i.toNat 0 = 0 := by simp [List.getD_eq_getElem?_getD, List.getElem?_eq_none (Nat.le_of_not_lt hi)]
  omega
theorem V_nil : V [] = 0 := rfl
theorem V_cons (x : Int) (l : List Int) : V (x :: l) = x + 4294967296 * V l := rfl
theorem V_one (x : Int) : V [x] = x := by simp [V]
theorem V_nonneg {l : List Int} (h : W l) : 0 ≤ V l := by
 induction l with
 | nil => exact Int.le_refl _
 | cons x l ih =>
  obtain ⟨h1, h2⟩ := W_cons.1 h
  have := ih h2
  rw [V_cons]
  omega
theorem V_lt {l : List Int} (h : W l) : V l < P l.length := by
 induction l with
 | nil => decide
 | cons x l ih =>
  obtain ⟨h1, h2⟩ := W_cons.1 h
  have := ih h2
  rw [V_cons, List.length_cons, P_succ]
  omega
theorem V_append (l m : List Int) : V (l ++ m) = V l + P l.length * V m := by
 induction l with
 | nil => simp [V, P]
 | cons x l ih =>
  rw [List.cons_append, V_cons, V_cons, ih, List.length_cons, P_succ]
  grind
theorem V_snoc (l : List Int) (x : Int) : V (l ++ [x]) = V l + P l.length * x := by rw [V_append, V_one]
theorem V_replicate (n : Nat) : V (List.replicate n 0) = 0 := by
 induction n with
 | zero => rfl
 | succ n ih => rw [List.replicate_succ, V_cons, ih]; rfl
theorem take_succ_rd (l : List Int) (i : Nat) (h : i < l.length) : l.take (i + 1) = l.take i ++ [rd l (i : Int)] := by
 rw [List.take_succ_eq_append_getElem h]
 simp [rd, List.getD_eq_getElem?_getD, h]
theorem V_take_succ (l : List Int) (i : Nat) (h : i < l.length) : V (l.take (i + 1)) = V (l.take i) + P i * rd l (i : Int) := by
 rw [take_succ_rd l i h, V_snoc, List.length_take, Nat.min_eq_left (by omega)]
theorem rd_beyond (l : List Int) (i : Int) (h : l.length ≤ i.toNat) : rd l i = 0 := by
 simp [rd, List.getD_eq_getElem?_getD, List.getElem?_eq_none h]
theorem V_take_succ' (l : List Int) (i : Nat) : V (l.take (i + 1)) = V (l.take i) + P i * rd l (i : Int) := by
 by_cases h : i < l.length
 ·exact V_take_succ l i h
 ·rw [rd_beyond l i (by simpa using h), List.take_of_length_le (by omega), List.take_of_length_le (by omega)]
  simp
theorem V_take_all (l : List Int) (n : Nat) (h : l.length ≤ n) : V (l.take n) = V l := by rw [List.take_of_length_le h]
theorem V_split (l : List Int) (n : Nat) (h : n ≤ l.length) : V l = V (l.take n) + P n * V (l.drop n) := by
 have h1 := V_append (l.take n) (l.drop n)
 rw [List.take_append_drop, List.length_take, Nat.min_eq_left h] at h1
 exact h1
theorem V_split' (l : List Int) (n : Nat) : V l = V (l.take n) + P n * V (l.drop n) := by
 by_cases h : n ≤ l.length
 ·exact V_split l n h
 ·rw [List.take_of_length_le (by omega), List.drop_of_length_le (by omega), V_nil]
  simp
theorem V_set (l : List Int) (i : Nat) (x : Int) (h : i < l.length) : V (l.set i x) = V l + P i * (x - rd l (i : Int)) := by
 induction l generalizing i with
 | nil => cases h
 | cons y l ih =>
  cases i with
  | zero => simp [V, rd, P]; omega
  | succ i =>
   rw [List.set_cons_succ, V_cons, V_cons, ih i (by simpa using h), P_succ]
   have e : rd (y :: l) ((i + 1 : Nat) : Int) = rd l (i : Int) := by simp only [rd, Int.toNat_natCast, List.getD_cons_succ]
   rw [e]
   grind
theorem rd_set_eq (l : List Int) (i : Nat) (x : Int) (h : i < l.length) : rd (l.set i x) (i : Int) = x := by
 simp [rd, List.getD_eq_getElem?_getD, h]
theorem rd_set_ne (l : List Int) (i : Nat) (x : Int) (j : Int) (h : j.toNat ≠ i) : rd (l.set i x) j = rd l j := by
 simp only [rd, List.getD_eq_getElem?_getD]
 rw [List.getElem?_set_ne (by omega)]
theorem rd_replicate (n : Nat) (i : Int) : rd (List.replicate n 0) i = 0 := by
 simp only [rd, List.getD_eq_getElem?_getD, List.getElem?_replicate]
 split <;> rfl
def L (n : Int) : List Int := if h : 0 < n then n % 4294967296 :: L (n / 4294967296) else []
termination_by n.toNat
decreasing_by omega
theorem L_zero : L 0 = [] := by unfold L; rfl
theorem L_pos {n : Int} (h : 0 < n) : L n = n % 4294967296 :: L (n / 4294967296) := by
 conv => lhs; unfold L
 rw [dif_pos h]
theorem L_neg {n : Int} (h : n ≤ 0) : L n = [] := by
 unfold L
 rw [dif_neg (by omega)]
theorem V_L : ∀ {n : Int}, 0 ≤ n → V (L n) = n := by
 have H : ∀ (k : Nat) (n : Int), n.toNat ≤ k → 0 ≤ n → V (L n) = n := by
  intro k
  induction k with
  | zero => intro n h h0; rw [show n = 0 by omega, L_zero]; rfl
  | succ k ih =>
   intro n h h0
   rcases Int.lt_or_eq_of_le h0 with hp | rfl
   ·rw [L_pos hp, V_cons, ih (n / 4294967296) (by omega) (by omega)]
    omega
   ·rw [L_zero]; rfl
 exact fun {n} h => H n.toNat n (Nat.le_refl _) h
theorem W_L : ∀ (n : Int), W (L n) := by
 have H : ∀ (k : Nat) (n : Int), n.toNat ≤ k → W (L n) := by
  intro k
  induction k with
  | zero => intro n h; rw [L_neg (by omega)]; exact W_nil
  | succ k ih =>
   intro n h
   by_cases hp : 0 < n
   ·rw [L_pos hp]
    exact W_cons.2 ⟨by omega, ih _ (by omega)⟩
   ·rw [L_neg (by omega)]; exact W_nil
 exact fun n => H n.toNat n (Nat.le_refl _)
theorem L_length_le : ∀ (m : Nat) {n : Int}, n < P m → (L n).length ≤ m := by
 intro m
 induction m with
 | zero =>
  intro n h
  rw [P_zero] at h
  rw [L_neg (by omega)]
  exact Nat.le_refl _
 | succ m ih =>
  intro n h
  rw [P_succ] at h
  by_cases hp : 0 < n
  ·rw [L_pos hp, List.length_cons]
   have := ih (n := n / 4294967296) (by omega)
   omega
  ·rw [L_neg (by omega)]
   exact Nat.zero_le _
theorem L_length_lt {m : Nat} {n : Int} (h : P m ≤ n) : m < (L n).length := by
 rcases Nat.lt_or_ge m (L n).length with hlt | hge
 ·exact hlt
 ·have h0 : 0 ≤ n := by have := P_pos m; omega
  have h1 := V_lt (W_L n)
  rw [V_L h0] at h1
  have := P_le hge
  omega
theorem L_nil_iff {n : Int} (h : 0 ≤ n) : L n = [] ↔ n = 0 := by
 constructor
 ·intro e
  have := V_L h
  rw [e] at this
  exact this.symm
 ·rintro rfl
  exact L_zero
theorem L_V : ∀ {l : List Int}, W l → (∀ h : l ≠ [], l.getLast h ≠ 0) → L (V l) = l := by
 intro l
 induction l with
 | nil => intro _ _; exact L_zero
 | cons x l ih =>
  intro hw hl
  obtain ⟨h1, h2⟩ := W_cons.1 hw
  have hv := V_nonneg h2
  have hih : L (V l) = l := ih h2 (fun hne => by
   have := hl (by simp)
   rwa [List.getLast_cons hne] at this)
  have hp : 0 < V (x :: l) := by
   rw [V_cons]
   by_cases hne : l = []
   ·subst hne
    have := hl (by simp)
    simp at this
    simp [V]
    omega
   ·have : V l ≠ 0 := fun e => hne (by rw [← hih, e, L_zero])
    omega
  rw [L_pos hp, V_cons, show (x + 4294967296 * V l) % 4294967296 = x by omega, show (x + 4294967296 * V l) / 4294967296 = V l by omega, hih]
theorem L_last {n : Int} : ∀ h : L n ≠ [], (L n).getLast h ≠ 0 := by
 have H : ∀ (k : Nat) (n : Int), n.toNat ≤ k → ∀ h : L n ≠ [], (L n).getLast h ≠ 0 := by
  intro k
  induction k with
  | zero => intro n h hne; exact absurd (L_neg (by omega)) hne
  | succ k ih =>
   intro n h hne
   by_cases hp : 0 < n
   ·have e := L_pos hp
    by_cases hz : L (n / 4294967296) = []
    ·have hz0 := (L_nil_iff (show 0 ≤ n / 4294967296 by omega)).1 hz
     have : (L n).getLast hne = n % 4294967296 := by
      simp only [e, hz, List.getLast_singleton]
     rw [this]
     omega
    ·have := ih (n / 4294967296) (by omega) hz
     have e2 : (L n).getLast hne = (L (n / 4294967296)).getLast hz := by
      simp only [e, List.getLast_cons hz]
     rw [e2]
     exact this
   ·exact absurd (L_neg (by omega)) hne
 exact H n.toNat n (Nat.le_refl _)
theorem V_take_lt {a : List Int} (h : W a) (i : Nat) : V (a.take i) < P i := by
 have h1 := V_lt (W_take h i)
 have h2 : (a.take i).length ≤ i := List.length_take_le _ _
 have := P_le h2
 omega
theorem P_mul_lt {i : Nat} {x y p q : Int} (hp0 : 0 ≤ p) (hp : p < P i) (hq0 : 0 ≤ q) (h : x < y) : p + P i * x < q + P i * y := by
 have h1 : P i * (x + 1) ≤ P i * y := Int.mul_le_mul_of_nonneg_left (by omega) (by have := P_pos i; omega)
 rw [Int.mul_add] at h1
 omega
theorem wrap_u64_of {x : Int} (h0 : 0 ≤ x) (h1 : x < 18446744073709551616) : IntKind.u64.wrap x = x := by
 simp only [IntKind.wrap, IntKind.bits, IntKind.signed]
 simp
 omega
theorem wf_of {l : List Int} (h : ∀ x ∈ l, (Lit.int .u32 x).wf = true) : W l := fun x hx => by
 have h1 := h x hx
 simp [Lit.wf] at h1
 have e1 : IntKind.u32.min = 0 := rfl
 have e2 : IntKind.u32.max = 4294967295 := rfl
 omega
attribute [irreducible] P V
end Go.Proofs.YtncdiodnbkhacaaDoor.N
end
section
namespace Go.Proofs.YtncdiodnbkhacaaDoor.N
set_option linter.unusedVariables false
set_option linter.unusedSimpArgs false
open Go.RowKit Go.Proofs.YtncdiodnbkhacaaDoorW.PrintWords Go.Proofs.YtncdiodnbkhacaaDoorW.PrintLast Go.Proofs.YtncdiodnbkhacaaDoor.Pq
theorem Ev_pos {α : Type} {c : Prop} [Decidable c] {f g : Nat → Option α} {r : α} (hc : c) (h : Ev f r) : Ev (fun k => if c then f k else g k) r := Ev.congr (fun k => if_pos hc) h
theorem Ev_neg {α : Type} {c : Prop} [Decidable c] {f g : Nat → Option α} {r : α} (hc : ¬ c) (h : Ev g r) : Ev (fun k => if c then f k else g k) r := Ev.congr (fun k => if_neg hc) h
theorem Ev_some {α β : Type} {o : Option α} {f : Nat → α → Option β} {a : α} {r : β} (h : o = some a) (k : Ev (fun n => f n a) r) : Ev (fun n => o.bind (f n)) r := by
 subst h
 exact k
theorem Ev_now {α : Type} {o : Option α} {r : α} (h : o = some r) : Ev (fun _ => o) r := ⟨0, fun _ _ => h⟩
theorem Ev_eq {α : Type} {f : Nat → Option α} {r s : α} (h : Ev f r) (e : r = s) : Ev f s := e ▸ h
theorem Ev_up {α : Type} {f : Nat → Option α} {r : α} (h : Ev (fun k => f (k + 1)) r) : Ev f r := Ev.step (fun k => rfl) h
theorem n_take {l : List Int} (hw : W l) : ∀ m, m ≤ l.length → l.take (nat_trim.n l m) = L (V (l.take m))
 | 0, _ => by
  show l.take 0 = _
  rw [List.take_zero, V_nil, L_zero]
 | m + 1, h => by
  have hv := V_take_succ l m (by omega)
  show l.take (if l.getD m 0 = 0 then nat_trim.n l m else m + 1) = _
  have hrd : rd l (m : Int) = l.getD m 0 := rfl
  by_cases hz : l.getD m 0 = 0
  ·rw [if_pos hz, n_take hw m (by omega), hv, hrd, hz]
   simp
  ·rw [if_neg hz]
   refine (L_V (W_take hw _) (fun hne => ?_)).symm
   have e := take_succ_rd l m (by omega)
   have : (l.take (m + 1)).getLast hne = rd l (m : Int) := by
    simp only [e, List.getLast_append, List.getLast_singleton]
    simp
   rw [this, hrd]
   exact hz
theorem trim_f {l : List Int} (hw : W l) : nat_trim.f l = some (L (V l)) := by
 unfold nat_trim.f
 rw [n_take hw l.length (Nat.le_refl _), List.take_length]
theorem L_len_le {l : List Int} (hw : W l) : (L (V l)).length ≤ l.length := L_length_le _ (V_lt hw)
abbrev Sm (l : List Int) : Prop := l.length < 35184372087809
theorem Sm_L {l : List Int} (hw : W l) (h : Sm l) : Sm (L (V l)) := Nat.lt_of_le_of_lt (L_len_le hw) h
theorem clone_f {l : List Int} (h : l.length < 35184372088832) : slices_Clone_uint32_uint32.f l = some l := if_pos h
theorem norm_f {l : List Int} (hw : W l) (h : Sm l) : nat_Norm.f l = some (L (V l)) := by
 have hl := Sm_L hw h
 unfold nat_Norm.f
 rw [trim_f hw, Option.bind_some, clone_f (by unfold Sm at hl; omega), Option.bind_some]
theorem add32_f {a b c : Int} (ha : 0 ≤ a ∧ a < 4294967296) (hb : 0 ≤ b ∧ b < 4294967296) (hc : 0 ≤ c ∧ c ≤ 1) : bits_Add32.f a b c = some ((a + b + c) % 4294967296, (a + b + c) / 4294967296) := by
 unfold bits_Add32.f
 rw [wrap_u64_of ha.1 (by omega), wrap_u64_of hb.1 (by omega), wrap_u64_of hc.1 (by omega), wrap_u64_of (x := a + b) (by omega) (by omega), wrap_u64_of (x := a + b + c) (by omega) (by omega)]
 rw [show ((a + b + c) / 4294967296) % 4294967296 = (a + b + c) / 4294967296 by omega]
theorem sub32_f {a b c : Int} (ha : 0 ≤ a ∧ a < 4294967296) (hb : 0 ≤ b ∧ b < 4294967296) (hc : 0 ≤ c ∧ c ≤ 1) : bits_Sub32.f a b c = some ((a - b - c) % 4294967296, bits_Sub32.b a b c) := by
 unfold bits_Sub32.f
 rw [if_pos ⟨ha, hb, hc⟩]
def cm (x y : Int) : Int := if x < y then -1 else if y < x then 1 else 0
theorem cmp_step (a b : List Int) (i : Nat) (ha : W a) (hb : W b) : cm (V (a.take (i + 1))) (V (b.take (i + 1))) = if rd a (i : Int) < rd b (i : Int) then -1 else if rd a (i : Int) > rd b (i : Int) then 1 else cm (V (a.take i)) (V (b.take i)) := by
 rw [V_take_succ', V_take_succ']
 have a1 := V_nonneg (W_take ha i)
 have a2 := V_take_lt ha i
 have b1 := V_nonneg (W_take hb i)
 have b2 := V_take_lt hb i
 rcases Int.lt_trichotomy (rd a (i : Int)) (rd b (i : Int)) with h | h | h
 ·rw [if_pos h]
  unfold cm
  rw [if_pos (P_mul_lt a1 a2 b1 h)]
 ·rw [if_neg (by omega), if_neg (by omega), h]
  unfold cm
  generalize P i * rd b (i : Int) = z
  by_cases h1 : V (a.take i) < V (b.take i)
  ·rw [if_pos h1, if_pos (by omega)]
  ·rw [if_neg h1, if_neg (by omega)]
   by_cases h2 : V (b.take i) < V (a.take i)
   ·rw [if_pos h2, if_pos (by omega)]
   ·rw [if_neg h2, if_neg (by omega)]
 ·have := P_mul_lt b1 b2 a1 h
  rw [if_neg (by omega), if_pos h]
  unfold cm
  rw [if_neg (by omega), if_pos this]
theorem ncmp_l {a b : List Int} (ha : W a) (hb : W b) (hl : a.length = b.length) (hs : a.length < 35184372087809) : ∀ (m : Nat), m ≤ a.length → Ev (fun k => nat_Cmp.l0 k a b ((m : Int) - 1)) (cm (V (a.take m)) (V (b.take m)))
 | 0, _ => by
  refine Ev.step (fun k => rfl) ?_
  refine Ev_neg (by omega) ?_
  exact Ev_now (by simp [cm])
 | m + 1, h => by
  have e : ((m + 1 : Nat) : Int) - 1 = (m : Int) := by omega
  have w1 : wrap64 ((m : Int) - 1) = (m : Int) - 1 := by unfold wrap64; omega
  rw [e, cmp_step a b m ha hb]
  refine Ev.step (fun k => rfl) ?_
  refine Ev_pos (by omega) ?_
  refine Ev_pos (by omega) ?_
  refine Ev_pos (by omega) ?_
  refine Ev_pos (by omega) ?_
  by_cases h1 : rd a (m : Int) < rd b (m : Int)
  ·rw [if_pos h1]
   refine Ev_pos h1 ?_
   exact Ev.now _
  ·rw [if_neg h1]
   refine Ev_neg h1 ?_
   by_cases h2 : rd a (m : Int) > rd b (m : Int)
   ·rw [if_pos h2]
    refine Ev_pos h2 ?_
    exact Ev.now _
   ·rw [if_neg h2, w1]
    refine Ev_neg h2 ?_
    exact ncmp_l ha hb hl hs m (by omega)
theorem ncmp_f {a b : List Int} (ha : W a) (hb : W b) (sa : Sm a) (sb : Sm b) : Ev (fun k => nat_Cmp.f k a b) (cm (V a) (V b)) := by
 have hla := Sm_L ha sa
 have hlb := Sm_L hb sb
 unfold Sm at hla hlb
 have va := V_nonneg ha
 have vb := V_nonneg hb
 have A := V_lt (W_L (V a))
 have Bv := V_lt (W_L (V b))
 rw [V_L va] at A
 rw [V_L vb] at Bv
 refine Ev_some (trim_f ha) ?_
 refine Ev_some (trim_f hb) ?_
 rcases Nat.lt_trichotomy (L (V a)).length (L (V b)).length with h | h | h
 ·refine Ev_neg (by omega) ?_
  refine Ev_pos (by omega) ?_
  refine Ev_now ?_
  have : V a < V b := by
   by_cases h1 : V a < V b
   ·exact h1
   ·have := L_length_le (L (V a)).length (n := V b) (by omega)
    omega
  unfold cm
  rw [if_pos this]
 ·refine Ev_pos (by omega) ?_
  have w1 : wrap64 (((L (V a)).length : Int) - 1) = ((L (V a)).length : Int) - 1 := by unfold wrap64; omega
  rw [w1]
  refine Ev_eq (ncmp_l (W_L _) (W_L _) h hla _ (Nat.le_refl _)) ?_
  rw [List.take_length, h, List.take_length, V_L va, V_L vb]
 ·refine Ev_neg (by omega) ?_
  refine Ev_neg (by omega) ?_
  refine Ev_now ?_
  have : V b < V a := by
   by_cases h1 : V b < V a
   ·exact h1
   ·have := L_length_le (L (V b)).length (n := V a) (by omega)
    omega
  unfold cm
  rw [if_neg (by omega), if_pos this]
theorem nadd_l0 {a b : List Int} (ha : W a) (hb : W b) (hl : b.length ≤ a.length) (sa : Sm a) : ∀ (d i : Nat) (p : List Int) (c : Int), a.length - i = d → i ≤ a.length → W p → p.length = i → 0 ≤ c ∧ c ≤ 1 →
  V p + P i * c = V (a.take i) + V (b.take i) → Ev (fun k => nat_Add.l0 k b p c a (a.length : Int) (i : Int)) (L (V a + V b)) := by
 intro d
 induction d with
 | zero =>
  intro i p c hd hi hp hpl hc hv
  have sa' : a.length < 35184372087809 := sa
  obtain rfl : i = a.length := by omega
  refine Ev.step (fun k => rfl) ?_
  refine Ev_neg (by omega) ?_
  refine Ev_pos (by omega) ?_
  refine Ev_some (trim_f (W_append hp (W_one hc.1 (by omega)))) ?_
  refine Ev_now ?_
  rw [V_snoc, hpl, hv, List.take_length, V_take_all b _ hl]
 | succ d ih =>
  intro i p c hd hi hp hpl hc hv
  have HV := Aside0.mk hv
  clear hv
  have sa' : a.length < 35184372087809 := sa
  have w1 : wrap64 ((i : Int) + 1) = ((i + 1 : Nat) : Int) := by unfold wrap64; omega
  have ra := W_rd ha (i : Int)
  have rb := W_rd hb (i : Int)
  have key : Aside0 (V (p ++ [(rd a (i : Int) + rd b (i : Int) + c) % 4294967296]) + P (i + 1) * ((rd a (i : Int) + rd b (i : Int) + c) / 4294967296) = V (a.take (i + 1)) + V (b.take (i + 1))) := ⟨by
   have hv := HV.out
   rw [V_snoc, hpl, V_take_succ' a i, V_take_succ' b i, P_succ]
   have := Int.emod_add_mul_ediv (rd a (i : Int) + rd b (i : Int) + c) 4294967296
   grind⟩
  have hrec := ih (i + 1) (p ++ [(rd a (i : Int) + rd b (i : Int) + c) % 4294967296]) ((rd a (i : Int) + rd b (i : Int) + c) / 4294967296) (by omega) (by omega) (W_append hp (W_one (by omega) (by omega))) (by simp [hpl]) (by omega) key.out
  refine Ev.step (fun k => rfl) ?_
  refine Ev_pos (by omega) ?_
  refine Ev_pos (by omega) ?_
  refine Ev_pos (by omega) ?_
  by_cases hib : (i : Int) < (b.length : Int)
  ·refine Ev_pos hib ?_
   refine Ev_some (add32_f ra rb hc) ?_
   refine Ev_pos (by omega) ?_
   rw [w1]
   exact hrec
  ·have hz : rd b (i : Int) = 0 := rd_beyond b _ (by omega)
   rw [hz] at hrec rb
   refine Ev_neg hib ?_
   refine Ev_some (add32_f ra rb hc) ?_
   refine Ev_pos (by omega) ?_
   rw [w1]
   exact hrec
theorem nadd_l100 {a b : List Int} (ha : W a) (hb : W b) (hl : b.length ≤ a.length) (sa : Sm a) : ∀ (d i : Nat) (p : List Int) (c : Int), a.length - i = d → i ≤ a.length → W p → p.length = i → 0 ≤ c ∧ c ≤ 1 →
  V p + P i * c = V (a.take i) + V (b.take i) → Ev (fun k => nat_Add.l100 k b p c a (a.length : Int) (i : Int)) (L (V a + V b)) := by
 intro d
 induction d with
 | zero =>
  intro i p c hd hi hp hpl hc hv
  have sa' : a.length < 35184372087809 := sa
  obtain rfl : i = a.length := by omega
  refine Ev.step (fun k => rfl) ?_
  refine Ev_neg (by omega) ?_
  refine Ev_pos (by omega) ?_
  refine Ev_some (trim_f (W_append hp (W_one hc.1 (by omega)))) ?_
  refine Ev_now ?_
  rw [V_snoc, hpl, hv, List.take_length, V_take_all b _ hl]
 | succ d ih =>
  intro i p c hd hi hp hpl hc hv
  have HV := Aside0.mk hv
  clear hv
  have sa' : a.length < 35184372087809 := sa
  have w1 : wrap64 ((i : Int) + 1) = ((i + 1 : Nat) : Int) := by unfold wrap64; omega
  have ra := W_rd ha (i : Int)
  have rb := W_rd hb (i : Int)
  have key : Aside0 (V (p ++ [(rd a (i : Int) + rd b (i : Int) + c) % 4294967296]) + P (i + 1) * ((rd a (i : Int) + rd b (i : Int) + c) / 4294967296) = V (a.take (i + 1)) + V (b.take (i + 1))) := ⟨by
   have hv := HV.out
   rw [V_snoc, hpl, V_take_succ' a i, V_take_succ' b i, P_succ]
   have := Int.emod_add_mul_ediv (rd a (i : Int) + rd b (i : Int) + c) 4294967296
   grind⟩
  have hrec := ih (i + 1) (p ++ [(rd a (i : Int) + rd b (i : Int) + c) % 4294967296]) ((rd a (i : Int) + rd b (i : Int) + c) / 4294967296) (by omega) (by omega) (W_append hp (W_one (by omega) (by omega))) (by simp [hpl]) (by omega) key.out
  refine Ev.step (fun k => rfl) ?_
  refine Ev_pos (by omega) ?_
  refine Ev_pos (by omega) ?_
  refine Ev_pos (by omega) ?_
  by_cases hib : (i : Int) < (b.length : Int)
  ·refine Ev_pos hib ?_
   refine Ev_some (add32_f ra rb hc) ?_
   refine Ev_pos (by omega) ?_
   rw [w1]
   exact hrec
  ·have hz : rd b (i : Int) = 0 := rd_beyond b _ (by omega)
   rw [hz] at hrec rb
   refine Ev_neg hib ?_
   refine Ev_some (add32_f ra rb hc) ?_
   refine Ev_pos (by omega) ?_
   rw [w1]
   exact hrec
theorem nadd_f {a b : List Int} (ha : W a) (hb : W b) (sa : Sm a) (sb : Sm b) : Ev (fun k => nat_Add.f k a b) (L (V a + V b)) := by
 have hla := Sm_L ha sa
 have hlb := Sm_L hb sb
 have va := V_nonneg ha
 have vb := V_nonneg hb
 have hla' := hla
 have hlb' := hlb
 unfold Sm at hla' hlb'
 refine Ev_some (trim_f ha) ?_
 refine Ev_some (trim_f hb) ?_
 by_cases h : ((L (V a)).length : Int) < ((L (V b)).length : Int)
 ·have w1 : wrap64 (((L (V b)).length : Int) + 1) = ((L (V b)).length : Int) + 1 := by unfold wrap64; omega
  refine Ev_pos h ?_
  rw [w1]
  refine Ev_pos (by omega) ?_
  refine Ev_pos (by omega) ?_
  refine Ev_eq (nadd_l0 (W_L _) (W_L _) (by omega) hlb _ 0 [] 0 rfl (Nat.zero_le _) W_nil rfl (by omega) (by simp [V])) ?_
  rw [V_L va, V_L vb, Int.add_comm]
 ·have w1 : wrap64 (((L (V a)).length : Int) + 1) = ((L (V a)).length : Int) + 1 := by unfold wrap64; omega
  refine Ev_neg h ?_
  rw [w1]
  refine Ev_pos (by omega) ?_
  refine Ev_pos (by omega) ?_
  refine Ev_eq (nadd_l100 (W_L _) (W_L _) (by omega) hla _ 0 [] 0 rfl (Nat.zero_le _) W_nil rfl (by omega) (by simp [V])) ?_
  rw [V_L va, V_L vb]
theorem cm_neg {x y : Int} : cm x y < 0 ↔ x < y := by
 unfold cm
 split
 ·simp [*]
 ·split <;> simp [*]
theorem two_limbs {n : Int} (h0 : 0 ≤ n) (h1 : n < 18446744073709551616) : W [n % 4294967296, (n / 4294967296) % 4294967296] ∧ V [n % 4294967296, (n / 4294967296) % 4294967296] = n :=
 ⟨W_cons.2 ⟨by omega, W_one (by omega) (by omega)⟩, by simp [V]; omega⟩
theorem nof_f {n : Int} (h0 : 0 ≤ n) (h1 : n < 18446744073709551616) : nat_Of.f n = some (L n) := by
 obtain ⟨hw, hv⟩ := two_limbs h0 h1
 unfold nat_Of.f
 rw [norm_f hw (by unfold Sm; simp), hv, Option.bind_some]
end Go.Proofs.YtncdiodnbkhacaaDoor.N
end
section
namespace Go.Proofs.YtncdiodnbkhacaaDoor.N
open Go.RowKit Go.Proofs.YtncdiodnbkhacaaDoorW.PrintWords Go.Proofs.YtncdiodnbkhacaaDoorW.PrintLast Go.Proofs.YtncdiodnbkhacaaDoor.Pq
set_option maxRecDepth 100000 in
theorem fixed4_at : penumbralaw04_fixed.f 200 = some true := by decide +kernel
theorem fixed4 : Ev (fun k => penumbralaw04_fixed.f k) true := Ev.of (fun k => penumbralaw04_fixed.mono k) fixed4_at
end Go.Proofs.YtncdiodnbkhacaaDoor.N
end
section
namespace Go.Proofs.YtncdiodnbkhacaaDoor.N
set_option linter.unusedVariables false
set_option linter.unusedSimpArgs false
open Go.RowKit Go.Proofs.YtncdiodnbkhacaaDoorW.PrintWords Go.Proofs.YtncdiodnbkhacaaDoorW.PrintLast Go.Proofs.YtncdiodnbkhacaaDoor.Pq
def bl (n : Int) : Int := if 0 < n then (Nat.log2 n.toNat : Int) + 1 else 0
theorem bl_zero : bl 0 = 0 := by decide +kernel
theorem bl_nonneg (n : Int) : 0 ≤ bl n := by unfold bl; split <;> omega
theorem bl_pos {n : Int} (h : 0 < n) : 0 < bl n := by unfold bl; rw [if_pos h]; omega
theorem bl_half {x : Int} (h : 0 < x) : bl x = bl (x / 2) + 1 := by
 unfold bl
 rw [if_pos h, Nat.log2_def]
 by_cases h2 : x.toNat ≥ 2
 ·rw [if_pos h2, if_pos (by omega), show (x / 2).toNat = x.toNat / 2 by omega]
  omega
 ·rw [if_neg h2, if_neg (by omega)]
  rfl
theorem bl_log {n : Int} (h : 0 < n) : (2 : Int) ^ (n.toNat.log2) ≤ n ∧ n < (2 : Int) ^ (n.toNat.log2 + 1) := by
 have hne : n.toNat ≠ 0 := by omega
 have h1 := Nat.log2_self_le hne
 have h2 := (Nat.log2_lt (k := n.toNat.log2 + 1) hne).1 (Nat.lt_succ_self _)
 have e : n = (n.toNat : Int) := by omega
 constructor
 ·rw [e]; exact_mod_cast h1
 ·rw [e]; exact_mod_cast h2
theorem bl_of {n : Int} {m : Nat} (h1 : (2 : Int) ^ m ≤ n) (h2 : n < (2 : Int) ^ (m + 1)) : bl n = (m : Int) + 1 := by
 have hp : (0 : Int) < 2 ^ m := Int.pow_pos (by decide)
 have hn : 0 < n := by omega
 obtain ⟨k, rfl⟩ : ∃ k : Nat, n = (k : Int) := ⟨n.toNat, by omega⟩
 have g1 : 2 ^ m ≤ k := by exact_mod_cast h1
 have g2 : k < 2 ^ (m + 1) := by exact_mod_cast h2
 have hk : k ≠ 0 := by omega
 have e1 := (Nat.le_log2 (k := m) hk).2 g1
 have e2 := (Nat.log2_lt (k := m + 1) hk).2 g2
 unfold bl
 rw [if_pos hn, Int.toNat_natCast]
 omega
theorem bl_le {m n : Int} (h : m ≤ n) : bl m ≤ bl n := by
 by_cases hm : 0 < m
 ·unfold bl
  rw [if_pos hm, if_pos (by omega)]
  have hn0 : n.toNat ≠ 0 := by omega
  have h1 := Nat.log2_self_le (n := m.toNat) (by omega)
  have := (Nat.le_log2 (k := m.toNat.log2) hn0).2 (by omega)
  omega
 ·have := bl_nonneg n
  have e : bl m = 0 := by unfold bl; rw [if_neg hm]
  omega
theorem P_pow (i : Nat) : P i = (2 : Int) ^ (32 * i) := by
 induction i with
 | zero => exact P_zero
 | succ i ih => rw [P_succ, ih, show 32 * (i + 1) = 32 * i + 32 by omega, Int.pow_add]; omega
theorem bl_V {l : List Int} (hw : W l) (i : Nat) (hi : l.length = i + 1) (hp : 0 < rd l (i : Int)) : bl (V l) = 32 * (i : Int) + bl (rd l (i : Int)) := by
 have h := bl_log hp
 have hv := V_take_succ' l i
 rw [List.take_of_length_le (by omega)] at hv
 have h0 := V_nonneg (W_take hw i)
 have h1 := V_take_lt hw i
 have hP := P_pos i
 have k1 : P i * (2 : Int) ^ ((rd l (i : Int)).toNat.log2) ≤ P i * rd l (i : Int) := Int.mul_le_mul_of_nonneg_left h.1 (by omega)
 have k2 : P i * (rd l (i : Int) + 1) ≤ P i * (2 : Int) ^ ((rd l (i : Int)).toNat.log2 + 1) := Int.mul_le_mul_of_nonneg_left (by omega) (by omega)
 rw [Int.mul_add] at k2
 have e1 : (2 : Int) ^ (32 * i + (rd l (i : Int)).toNat.log2) = P i * (2 : Int) ^ ((rd l (i : Int)).toNat.log2) := by rw [Int.pow_add, P_pow]
 have e2 : (2 : Int) ^ (32 * i + (rd l (i : Int)).toNat.log2 + 1) = P i * (2 : Int) ^ ((rd l (i : Int)).toNat.log2 + 1) := by rw [Nat.add_assoc, Int.pow_add, P_pow]
 rw [bl_of (m := 32 * i + (rd l (i : Int)).toNat.log2) (by rw [e1]; omega) (by rw [e2]; omega)]
 unfold bl
 rw [if_pos hp]
 omega
theorem rd_last {n : Int} (h : 0 < n) : ∃ i, (L n).length = i + 1 ∧ 0 < rd (L n) (i : Int) := by
 have hne : L n ≠ [] := fun e => by
  have := (L_nil_iff (by omega)).1 e
  omega
 have hl := List.length_pos_iff.2 hne
 refine ⟨(L n).length - 1, by omega, ?_⟩
 have h1 := L_last hne
 have h2 := W_rd (W_L n) (((L n).length - 1 : Nat) : Int)
 have e : rd (L n) (((L n).length - 1 : Nat) : Int) = (L n).getLast hne := by
  rw [List.getLast_eq_getElem]
  simp only [rd, Int.toNat_natCast, List.getD_eq_getElem?_getD]
  rw [List.getElem?_eq_getElem (by omega), Option.getD_some]
 omega
attribute [irreducible] bl
theorem tab_bl' : ∀ y : Fin 256, bt (⟨#[0, 1, 2, 2, 3, 3, 3, 3, 4, 4, 4, 4, 4, 4, 4, 4, 5, 5, 5, 5, 5, 5, 5, 5, 5, 5, 5, 5, 5, 5, 5, 5, 6, 6, 6, 6, 6, 6, 6, 6, 6, 6, 6, 6, 6, 6, 6, 6, 6, 6, 6, 6, 6, 6, 6, 6, 6, 6, 6, 6, 6, 6, 6, 6, 7, 7, 7, 7, 7, 7, 7, 7, 7, 7, 7, 7, 7, 7, 7, 7, 7, 7, 7, 7, 7, 7, 7, 7, 7, 7, 7, 7, 7, 7, 7, 7, 7, 7, 7, 7, 7, 7, 7, 7, 7, 7, 7, 7, 7, 7, 7, 7, 7, 7, 7, 7, 7, 7, 7, 7, 7, 7, 7, 7, 7, 7, 7, 7, 8, 8, 8, 8, 8, 8, 8, 8, 8, 8, 8, 8, 8, 8, 8, 8, 8, 8, 8, 8, 8, 8, 8, 8, 8, 8, 8, 8, 8, 8, 8, 8, 8, 8, 8, 8, 8, 8, 8, 8, 8, 8, 8, 8, 8, 8, 8, 8, 8, 8, 8, 8, 8, 8, 8, 8, 8, 8, 8, 8, 8, 8, 8, 8, 8, 8, 8, 8, 8, 8, 8, 8, 8, 8, 8, 8, 8, 8, 8, 8, 8, 8, 8, 8, 8, 8, 8, 8, 8, 8, 8, 8, 8, 8, 8, 8, 8, 8, 8, 8, 8, 8, 8, 8, 8, 8, 8, 8, 8, 8, 8, 8, 8, 8, 8, 8, 8, 8, 8, 8, 8, 8, 8, 8, 8, 8, 8, 8]⟩ : ByteArray) (y.val : Int) = bl (y.val : Int) := by decide +kernel
set_option maxRecDepth 20000 in
theorem tab_bl {y : Int} (h0 : 0 ≤ y) (h1 : y < 256) : bt (⟨#[0, 1, 2, 2, 3, 3, 3, 3, 4, 4, 4, 4, 4, 4, 4, 4, 5, 5, 5, 5, 5, 5, 5, 5, 5, 5, 5, 5, 5, 5, 5, 5, 6, 6, 6, 6, 6, 6, 6, 6, 6, 6, 6, 6, 6, 6, 6, 6, 6, 6, 6, 6, 6, 6, 6, 6, 6, 6, 6, 6, 6, 6, 6, 6, 7, 7, 7, 7, 7, 7, 7, 7, 7, 7, 7, 7, 7, 7, 7, 7, 7, 7, 7, 7, 7, 7, 7, 7, 7, 7, 7, 7, 7, 7, 7, 7, 7, 7, 7, 7, 7, 7, 7, 7, 7, 7, 7, 7, 7, 7, 7, 7, 7, 7, 7, 7, 7, 7, 7, 7, 7, 7, 7, 7, 7, 7, 7, 7, 8, 8, 8, 8, 8, 8, 8, 8, 8, 8, 8, 8, 8, 8, 8, 8, 8, 8, 8, 8, 8, 8, 8, 8, 8, 8, 8, 8, 8, 8, 8, 8, 8, 8, 8, 8, 8, 8, 8, 8, 8, 8, 8, 8, 8, 8, 8, 8, 8, 8, 8, 8, 8, 8, 8, 8, 8, 8, 8, 8, 8, 8, 8, 8, 8, 8, 8, 8, 8, 8, 8, 8, 8, 8, 8, 8, 8, 8, 8, 8, 8, 8, 8, 8, 8, 8, 8, 8, 8, 8, 8, 8, 8, 8, 8, 8, 8, 8, 8, 8, 8, 8, 8, 8, 8, 8, 8, 8, 8, 8, 8, 8, 8, 8, 8, 8, 8, 8, 8, 8, 8, 8, 8, 8, 8, 8, 8, 8]⟩ : ByteArray) y = bl y := by
 have h : bt (⟨#[0, 1, 2, 2, 3, 3, 3, 3, 4, 4, 4, 4, 4, 4, 4, 4, 5, 5, 5, 5, 5, 5, 5, 5, 5, 5, 5, 5, 5, 5, 5, 5, 6, 6, 6, 6, 6, 6, 6, 6, 6, 6, 6, 6, 6, 6, 6, 6, 6, 6, 6, 6, 6, 6, 6, 6, 6, 6, 6, 6, 6, 6, 6, 6, 7, 7, 7, 7, 7, 7, 7, 7, 7, 7, 7, 7, 7, 7, 7, 7, 7, 7, 7, 7, 7, 7, 7, 7, 7, 7, 7, 7, 7, 7, 7, 7, 7, 7, 7, 7, 7, 7, 7, 7, 7, 7, 7, 7, 7, 7, 7, 7, 7, 7, 7, 7, 7, 7, 7, 7, 7, 7, 7, 7, 7, 7, 7, 7, 8, 8, 8, 8, 8, 8, 8, 8, 8, 8, 8, 8, 8, 8, 8, 8, 8, 8, 8, 8, 8, 8, 8, 8, 8, 8, 8, 8, 8, 8, 8, 8, 8, 8, 8, 8, 8, 8, 8, 8, 8, 8, 8, 8, 8, 8, 8, 8, 8, 8, 8, 8, 8, 8, 8, 8, 8, 8, 8, 8, 8, 8, 8, 8, 8, 8, 8, 8, 8, 8, 8, 8, 8, 8, 8, 8, 8, 8, 8, 8, 8, 8, 8, 8, 8, 8, 8, 8, 8, 8, 8, 8, 8, 8, 8, 8, 8, 8, 8, 8, 8, 8, 8, 8, 8, 8, 8, 8, 8, 8, 8, 8, 8, 8, 8, 8, 8, 8, 8, 8, 8, 8, 8, 8, 8, 8, 8, 8]⟩ : ByteArray) (y.toNat : Int) = bl (y.toNat : Int) := tab_bl' ⟨y.toNat, by omega⟩
 rw [show ((y.toNat : Nat) : Int) = y by omega] at h
 exact h
theorem bl_shift8 {x : Int} (h : 256 ≤ x) : bl x = bl (x / 256) + 8 := by
 rw [bl_half (x := x) (by omega), bl_half (x := x / 2) (by omega), bl_half (x := x / 2 / 2) (by omega), bl_half (x := x / 2 / 2 / 2) (by omega), bl_half (x := x / 2 / 2 / 2 / 2) (by omega),
  bl_half (x := x / 2 / 2 / 2 / 2 / 2) (by omega), bl_half (x := x / 2 / 2 / 2 / 2 / 2 / 2) (by omega), bl_half (x := x / 2 / 2 / 2 / 2 / 2 / 2 / 2) (by omega), show x / 2 / 2 / 2 / 2 / 2 / 2 / 2 / 2 = x / 256 by omega]
 omega
theorem bl_small {x : Int} (h0 : 0 ≤ x) (h1 : x < 256) : 0 ≤ bl x ∧ bl x ≤ 8 := by
 refine ⟨bl_nonneg x, ?_⟩
 have := bl_le (show x ≤ 255 by omega)
 have e : bl 255 = 8 := by decide +kernel
 omega
set_option maxRecDepth 20000 in
theorem len32_f {x : Int} (h0 : 0 ≤ x) (h1 : x < 4294967296) : bits_Len32.f x = some (bl x) := by
 unfold bits_Len32.f
 by_cases c1 : x ≥ 65536
 ·rw [if_pos c1]
  by_cases c2 : x / 65536 ≥ 256
  ·rw [if_pos c2, if_pos (by omega), if_pos (by omega), show x / 65536 / 256 % 256 = x / 65536 / 256 by omega, tab_bl (by omega) (by omega)]
   have := bl_small (x := x / 65536 / 256) (by omega) (by omega)
   rw [bl_shift8 (x := x) (by omega), bl_shift8 (x := x / 256) (by omega), bl_shift8 (x := x / 256 / 256) (by omega), show x / 256 / 256 / 256 = x / 65536 / 256 by omega]
   unfold wrap64
   refine congrArg some ?_
   omega
  ·rw [if_neg c2, if_pos (by omega), if_pos (by omega), show x / 65536 % 256 = x / 65536 by omega, tab_bl (by omega) (by omega)]
   have := bl_small (x := x / 65536) (by omega) (by omega)
   rw [bl_shift8 (x := x) (by omega), bl_shift8 (x := x / 256) (by omega), show x / 256 / 256 = x / 65536 by omega]
   unfold wrap64
   refine congrArg some ?_
   omega
 ·rw [if_neg c1]
  by_cases c2 : x ≥ 256
  ·rw [if_pos c2, if_pos (by omega), if_pos (by omega), show x / 256 % 256 = x / 256 by omega, tab_bl (by omega) (by omega)]
   have := bl_small (x := x / 256) (by omega) (by omega)
   rw [bl_shift8 (x := x) (by omega)]
   unfold wrap64
   refine congrArg some ?_
   omega
  ·rw [if_neg c2, if_pos (by omega), if_pos (by omega), show x % 256 = x by omega, tab_bl (by omega) (by omega)]
   have := bl_small (x := x) (by omega) (by omega)
   unfold wrap64
   refine congrArg some ?_
   omega
theorem bl_32 {x : Int} (h1 : x < 4294967296) : bl x ≤ 32 := by
 have := bl_le (show x ≤ 4294967295 by omega)
 have e : bl 4294967295 = 32 := by decide +kernel
 omega
theorem bits_arith {n i t : Int} (h : n = i + 1) (hi : 0 ≤ i) (hn : n < 35184372087809) (h0 : 0 ≤ t) (h1 : t ≤ 32) : wrap64 (wrap64 (32 * n) - wrap64 (32 - t)) = 32 * i + t := by
 unfold wrap64
 omega
theorem nbits_f {a : List Int} (ha : W a) (sa : Sm a) : nat_Bits.f a = some (bl (V a)) := by
 have va := V_nonneg ha
 have la := L_len_le ha
 have sa' : a.length < 35184372087809 := sa
 unfold nat_Bits.f
 rw [trim_f ha, Option.bind_some]
 by_cases hz : V a = 0
 ·rw [hz, L_zero, bl_zero]
  exact if_pos rfl
 ·obtain ⟨i, hi, hp⟩ := rd_last (n := V a) (by omega)
  have w1 : wrap64 (((L (V a)).length : Int) - 1) = (i : Int) := by unfold wrap64; omega
  have hb := bl_V (W_L (V a)) i hi hp
  rw [V_L va] at hb
  have hr := W_rd (W_L (V a)) (i : Int)
  have h32 := bl_32 hr.2
  have h32' := bl_nonneg (rd (L (V a)) (i : Int))
  rw [if_neg (by omega), w1, if_pos (by omega), if_pos (by omega)]
  unfold bits_LeadingZeros32.f
  rw [len32_f hr.1 hr.2, Option.bind_some, Option.bind_some, hb]
  exact congrArg some (bits_arith (by omega) (by omega) (by omega) h32' h32)
end Go.Proofs.YtncdiodnbkhacaaDoor.N
end
section
namespace Go.Proofs.YtncdiodnbkhacaaDoor.N
set_option linter.unusedVariables false
set_option linter.unusedSimpArgs false
open Go.RowKit Go.Proofs.YtncdiodnbkhacaaDoorW.PrintWords Go.Proofs.YtncdiodnbkhacaaDoorW.PrintLast Go.Proofs.YtncdiodnbkhacaaDoor.Pq
theorem limb_mul {x y o c : Int} (hx : 0 ≤ x ∧ x < 4294967296) (hy : 0 ≤ y ∧ y < 4294967296) (ho : 0 ≤ o ∧ o < 4294967296) (hc : 0 ≤ c ∧ c < 4294967296) :
  0 ≤ x * y ∧ x * y ≤ 18446744065119617025 := by
 constructor
 ·exact Int.mul_nonneg hx.1 hy.1
 ·have h1 : x * y ≤ 4294967295 * y := Int.mul_le_mul_of_nonneg_right (by omega) hy.1
  omega
theorem mul_wrap {x y o c : Int} (hx : 0 ≤ x ∧ x < 4294967296) (hy : 0 ≤ y ∧ y < 4294967296) (ho : 0 ≤ o ∧ o < 4294967296) (hc : 0 ≤ c ∧ c < 4294967296) :
  IntKind.u64.wrap (IntKind.u64.wrap (IntKind.u64.wrap (IntKind.u64.wrap x * IntKind.u64.wrap y) + IntKind.u64.wrap o) + c) = x * y + o + c := by
 have h := limb_mul hx hy ho hc
 rw [wrap_u64_of (x := x) (by omega) (by omega), wrap_u64_of (x := y) (by omega) (by omega), wrap_u64_of (x := o) (by omega) (by omega), wrap_u64_of (x := x * y) (by omega) (by omega), wrap_u64_of (x := x * y + o) (by omega) (by omega), wrap_u64_of (by omega) (by omega)]
theorem mul_step {o : List Int} (n : Nat) (h : n < o.length) (x y c : Int) :
  V (o.set n ((x * y + rd o (n : Int) + c) % 4294967296)) + P (n + 1) * ((x * y + rd o (n : Int) + c) / 4294967296) = V o + P n * (x * y + c) := by
 rw [V_set o n _ h, P_succ]
 have := Int.emod_add_mul_ediv (x * y + rd o (n : Int) + c) 4294967296
 grind
structure MulI (a b o : List Int) (n i : Nat) : Prop where
 w : W o
 len : o.length = n
 val : V o = V (a.take i) * V b
 zero : ∀ j : Nat, i + b.length ≤ j → rd o (j : Int) = 0
structure MulJ (a b o : List Int) (n i j : Nat) (c : Int) : Prop where
 w : W o
 len : o.length = n
 c0 : 0 ≤ c ∧ c < 4294967296
 val : V o + P (i + j) * c = V (a.take i) * V b + P i * (rd a (i : Int) * V (b.take j))
 zero : ∀ m : Nat, i + b.length ≤ m → rd o (m : Int) = 0
theorem MulI.start (a b : List Int) (n : Nat) : MulI a b (List.replicate n 0) n 0 :=
 ⟨W_replicate n, by simp, by simp [V_replicate, V_nil], fun j _ => rd_replicate n j⟩
theorem MulI.inner {a b o : List Int} {n i : Nat} (h : MulI a b o n i) : MulJ a b o n i 0 0 :=
 ⟨h.w, h.len, by omega, by rw [h.val]; simp [V_nil], h.zero⟩
theorem MulJ.step {a b o : List Int} {n i j : Nat} {c : Int} (h : MulJ a b o n i j c) (hb : W b) (ha : W a) (hj : j < b.length) (hn : i + b.length < n) :
  MulJ a b (o.set (i + j) ((rd a (i : Int) * rd b (j : Int) + rd o ((i + j : Nat) : Int) + c) % 4294967296)) n i (j + 1) ((rd a (i : Int) * rd b (j : Int) + rd o ((i + j : Nat) : Int) + c) / 4294967296) := by
 have hlt : i + j < o.length := by rw [h.len]; omega
 have ra := W_rd ha (i : Int)
 have rb := W_rd hb (j : Int)
 have ro := W_rd h.w ((i + j : Nat) : Int)
 have hm := limb_mul ra rb ro h.c0
 have hc := h.c0
 refine ⟨W_set h.w _ (by omega) (by omega), by rw [List.length_set, h.len], by omega, ?_, ?_⟩
 ·have e := mul_step (i + j) hlt (rd a (i : Int)) (rd b (j : Int)) c
  have hv := h.val
  have ep := P_add i j
  rw [V_take_succ' b j, show i + (j + 1) = i + j + 1 by omega]
  clear hm hc ro rb ra
  grind
 ·intro m hm
  rw [rd_set_ne _ _ _ _ (by omega)]
  exact h.zero m hm
theorem MulJ.done {a b o : List Int} {n i : Nat} {c : Int} (h : MulJ a b o n i b.length c) (hn : i + b.length < n) : MulI a b (o.set (i + b.length) (c % 4294967296)) n (i + 1) := by
 have hc := h.c0
 rw [Int.emod_eq_of_lt hc.1 hc.2]
 refine ⟨W_set h.w _ hc.1 hc.2, by rw [List.length_set, h.len], ?_, ?_⟩
 ·rw [V_set _ _ _ (by rw [h.len]; omega), h.zero (i + b.length) (Nat.le_refl _), V_take_succ' a i]
  have hv := h.val
  rw [List.take_length] at hv
  grind
 ·intro m hm
  rw [rd_set_ne _ _ _ _ (by omega)]
  exact h.zero m (by omega)
theorem nmul_l1 {a b : List Int} (ha : W a) (hb : W b) (hl : a.length + b.length ≤ 70368744177664) {i : Nat} (hi : i < a.length) (R : List Int)
  (hnext : ∀ o, MulI a b o (a.length + b.length) (i + 1) → Ev (fun k => nat_Mul.l0 k b o a (a.length : Int) ((i + 1 : Nat) : Int)) R) :
  ∀ (d j : Nat) (o : List Int) (c : Int), b.length - j = d → j ≤ b.length → MulJ a b o (a.length + b.length) i j c →
   Ev (fun k => nat_Mul.l1 k b o (i : Int) (rd a (i : Int)) c a (a.length : Int) (i : Int) b (b.length : Int) (j : Int)) R := by
 intro d
 induction d with
 | zero =>
  intro j o c hd hj h
  obtain rfl : j = b.length := by omega
  have hlen := h.len
  have w1 : wrap64 ((i : Int) + (b.length : Int)) = ((i + b.length : Nat) : Int) := by unfold wrap64; omega
  have w2 : wrap64 ((i : Int) + 1) = ((i + 1 : Nat) : Int) := by unfold wrap64; omega
  refine Ev_up ?_
  unfold nat_Mul.l1
  refine Ev_neg (by omega) ?_
  rw [w1, w2, Int.toNat_natCast]
  refine Ev_pos (by omega) ?_
  refine Ev_pos (by omega) ?_
  exact hnext _ (h.done (by omega))
 | succ d ih =>
  intro j o c hd hj h
  have hlen := h.len
  have w1 : wrap64 ((i : Int) + (j : Int)) = ((i + j : Nat) : Int) := by unfold wrap64; omega
  have w2 : wrap64 ((j : Int) + 1) = ((j + 1 : Nat) : Int) := by unfold wrap64; omega
  refine Ev_up ?_
  unfold nat_Mul.l1
  refine Ev_pos (by omega) ?_
  refine Ev_pos (by omega) ?_
  refine Ev_pos (by omega) ?_
  rw [w1, w2, Int.toNat_natCast]
  refine Ev_pos (by omega) ?_
  refine Ev_pos (by omega) ?_
  rw [mul_wrap (W_rd ha _) (W_rd hb _) (W_rd h.w _) h.c0]
  exact ih (j + 1) _ _ (by omega) (by omega) (h.step hb ha (by omega) (by omega))
theorem nmul_l0 {a b : List Int} (ha : W a) (hb : W b) (hl : a.length + b.length ≤ 70368744177664) : ∀ (d i : Nat) (o : List Int), a.length - i = d → i ≤ a.length → MulI a b o (a.length + b.length) i →
  Ev (fun k => nat_Mul.l0 k b o a (a.length : Int) (i : Int)) (L (V a * V b)) := by
 intro d
 induction d with
 | zero =>
  intro i o hd hi h
  obtain rfl : i = a.length := by omega
  refine Ev_up ?_
  unfold nat_Mul.l0
  refine Ev_neg (by omega) ?_
  refine Ev_some (trim_f h.w) ?_
  refine Ev_now ?_
  rw [h.val, List.take_length]
 | succ d ih =>
  intro i o hd hi h
  refine Ev_up ?_
  unfold nat_Mul.l0
  refine Ev_pos (by omega) ?_
  refine Ev_pos (by omega) ?_
  refine Ev_pos (by omega) ?_
  exact nmul_l1 ha hb hl (by omega) _ (fun o' h' => ih (i + 1) o' (by omega) (by omega) h') _ 0 o 0 rfl (Nat.zero_le _) h.inner
theorem nmul_f {a b : List Int} (ha : W a) (hb : W b) (hl : a.length + b.length ≤ 70368744177664) : Ev (fun k => nat_Mul.f k a b) (L (V a * V b)) := by
 have la := L_len_le ha
 have lb := L_len_le hb
 have va := V_nonneg ha
 have vb := V_nonneg hb
 refine Ev_some (trim_f ha) ?_
 refine Ev_some (trim_f hb) ?_
 have w1 : wrap64 (((L (V a)).length : Int) + ((L (V b)).length : Int)) = (((L (V a)).length + (L (V b)).length : Nat) : Int) := by unfold wrap64; omega
 rw [w1, Int.toNat_natCast]
 refine Ev_pos (by omega) ?_
 refine Ev_pos (by omega) ?_
 have := nmul_l0 (W_L (V a)) (W_L (V b)) (by omega) _ 0 _ rfl (Nat.zero_le _) (MulI.start _ _ _)
 rw [V_L va, V_L vb] at this
 exact this
end Go.Proofs.YtncdiodnbkhacaaDoor.N
end
section
namespace Go.Proofs.YtncdiodnbkhacaaDoor.N
set_option linter.unusedVariables false
set_option linter.unusedSimpArgs false
open Go.RowKit Go.Proofs.YtncdiodnbkhacaaDoorW.PrintWords Go.Proofs.YtncdiodnbkhacaaDoorW.PrintLast Go.Proofs.YtncdiodnbkhacaaDoor.Pq
structure Nm (l : List Int) (n : Nat) (x : Int) : Prop where
 w : W l
 v : V l = x
 le : l.length ≤ n
theorem Nm.pos {l : List Int} {n : Nat} {x : Int} (h : Nm l n x) : 0 ≤ x := h.v ▸ V_nonneg h.w
theorem Nm.lt {l : List Int} {n : Nat} {x : Int} (h : Nm l n x) : x < P n := by
 have h1 := V_lt h.w
 have h2 := P_le h.le
 have h3 := h.v
 omega
theorem Nm.L {n : Nat} {x : Int} (h0 : 0 ≤ x) (h1 : x < P n) : Nm (L x) n x := ⟨W_L x, V_L h0, L_length_le n h1⟩
theorem Nm.of {l : List Int} {n : Nat} (h : ∀ x ∈ l, (Lit.int .u32 x).wf = true) (hn : l.length ≤ n) : Nm l n (V l) := ⟨wf_of h, rfl, hn⟩
theorem Nm.nil : Nm [] 0 0 := ⟨W_nil, V_nil, Nat.le_refl _⟩
theorem Nm.one : Nm [1] 1 1 := ⟨W_one (by decide) (by decide), V_one 1, Nat.le_refl _⟩
theorem Nm.norm {l : List Int} {n : Nat} {x : Int} (h : Nm l n x) : Nm (N.L x) n x := Nm.L h.pos h.lt
theorem Nm.mulL {a b : List Int} {m n : Nat} {x y : Int} (h : Nm a m x) (k : Nm b n y) : Nm (N.L (x * y)) (m + n) (x * y) := by
 refine Nm.L (Int.mul_nonneg h.pos k.pos) ?_
 rw [P_add]
 have h1 : x * y ≤ x * (P n - 1) := Int.mul_le_mul_of_nonneg_left (by have := k.lt; omega) h.pos
 have h2 : x * P n < P m * P n := Int.mul_lt_mul_of_pos_right h.lt (P_pos n)
 have h3 := h.pos
 rw [Int.mul_sub] at h1
 omega
theorem Nm.add {a b : List Int} {m n : Nat} {x y : Int} (h : Nm a m x) (k : Nm b n y) (hm : m < 35184372087809) (hn : n < 35184372087809) : Ev (fun r => nat_Add.f r a b) (N.L (x + y)) := by
 have h1 := h.le
 have h2 := k.le
 have e := nadd_f h.w k.w (by unfold Sm; omega) (by unfold Sm; omega)
 rwa [h.v, k.v] at e
theorem Nm.mul {a b : List Int} {m n : Nat} {x y : Int} (h : Nm a m x) (k : Nm b n y) (hm : m < 35184372087809) (hn : n < 35184372087809) : Ev (fun r => nat_Mul.f r a b) (N.L (x * y)) := by
 have h1 := h.le
 have h2 := k.le
 have e := nmul_f h.w k.w (by omega)
 rwa [h.v, k.v] at e
theorem Nm.nrm {a : List Int} {m : Nat} {x : Int} (h : Nm a m x) (hm : m < 35184372087809) : nat_Norm.f a = some (N.L x) := by
 have h1 := h.le
 have e := norm_f h.w (by unfold Sm; omega)
 rwa [h.v] at e
end Go.Proofs.YtncdiodnbkhacaaDoor.N
end
section
namespace Go.Proofs.YtncdiodnbkhacaaDoor.N
set_option linter.unusedVariables false
set_option linter.unusedSimpArgs false
open Go Go.RowKit Go.Proofs.YtncdiodnbkhacaaDoorW.PrintWords Go.Proofs.YtncdiodnbkhacaaDoorW.PrintLast Go.Proofs.YtncdiodnbkhacaaDoorW.PrintMore Go.Proofs.YtncdiodnbkhacaaDoor.Pq
def shS (x s : Int) : List Int × Bool := if s < 0 then ([], false) else if s > 65536 then ([], false) else (L (x * 2 ^ s.toNat), true)
theorem u32_wrap (x : Int) : IntKind.u32.wrap x = x % 4294967296 := by
 simp only [IntKind.wrap, IntKind.bits, IntKind.signed]
 simp
theorem shl_limb {r : Nat} (hr : r < 32) {x c : Int} (hx : 0 ≤ x ∧ x < 4294967296) (hc : 0 ≤ c ∧ c < 2 ^ r) :
  Go.bits .or .u32 (shl .u32 x (r : Int)) c = x * 2 ^ r % 4294967296 + c ∧ shr .u64 (IntKind.u64.wrap x) (32 - (r : Int)) % 4294967296 = x * 2 ^ r / 4294967296 ∧
   0 ≤ x * 2 ^ r % 4294967296 + c ∧ x * 2 ^ r % 4294967296 + c < 4294967296 ∧ 0 ≤ x * 2 ^ r / 4294967296 ∧ x * 2 ^ r / 4294967296 < 2 ^ r := by
 have hT : (0 : Int) < 2 ^ r := Int.pow_pos (by decide)
 have hU : (0 : Int) < 2 ^ (32 - r) := Int.pow_pos (by decide)
 have hTU : (2 : Int) ^ r * 2 ^ (32 - r) = 4294967296 := by rw [← Int.pow_add, show r + (32 - r) = 32 by omega]; rfl
 have e1 : shl .u32 x (r : Int) = x * 2 ^ r % 4294967296 := by
  unfold shl
  rw [u32_wrap, Int.toNat_natCast, Nat.min_eq_left (show r ≤ IntKind.u32.bits by show r ≤ 32; omega)]
 have e2 : shr .u64 (IntKind.u64.wrap x) (32 - (r : Int)) = x / 2 ^ (32 - r) := by
  unfold shr
  rw [wrap_u64_of hx.1 (by omega), show (32 - (r : Int)).toNat = 32 - r by omega, Nat.min_eq_left (show 32 - r ≤ IntKind.u64.bits by show 32 - r ≤ 64; omega)]
 have key : x * 2 ^ r % 4294967296 % 2 ^ r = 0 := by
  rw [← hTU, Int.emod_emod_of_dvd _ (Int.dvd_mul_right _ _)]
  exact Int.mul_emod_left _ _
 have hTle : (2 : Int) ^ r ≤ 4294967296 := by
  have : (2 : Int) ^ r * 1 ≤ 2 ^ r * 2 ^ (32 - r) := Int.mul_le_mul_of_nonneg_left (by omega) (by omega)
  rw [hTU] at this
  omega
 have jo : ∀ y : Int, 0 ≤ y → y % 2 ^ r = 0 → y < 4294967296 → Go.bits .or .u32 y c = y + c := fun y h0 h1 h2 =>
  bits_join .u32 32 (Nat.le_refl _) (fun n h0 h1 => by rw [u32_wrap]; omega) r y c h0 h1 (by omega) hc.1 hc.2 (by omega)
 rw [e1, e2, jo _ (by omega) key (by omega)]
 clear jo e1 e2
 generalize (2 : Int) ^ r = T at *
 generalize (2 : Int) ^ (32 - r) = U at *
 have m1 : x * T % 4294967296 = T * (x % U) := by rw [← hTU, Int.mul_comm x T, Int.mul_emod_mul_of_pos _ _ hT]
 have d1 : x * T / 4294967296 = x / U := by rw [← hTU, Int.mul_comm x T, Int.mul_ediv_mul_of_pos _ _ hT]
 have xu0 := Int.emod_nonneg x (show U ≠ 0 by omega)
 have xu1 := Int.emod_lt_of_pos x hU
 have xd0 : 0 ≤ x / U := Int.ediv_nonneg hx.1 (by omega)
 have xd1 : x / U < T := Int.ediv_lt_of_lt_mul hU (by rw [hTU]; exact hx.2)
 have p0 : 0 ≤ T * (x % U) := Int.mul_nonneg (by omega) xu0
 have p1 : T * (x % U + 1) ≤ T * U := Int.mul_le_mul_of_nonneg_left (by omega) (by omega)
 rw [Int.mul_add, hTU] at p1
 rw [m1, d1]
 clear m1 d1 key
 refine ⟨rfl, ?_, by omega, by omega, xd0, xd1⟩
 rw [Int.emod_eq_of_lt xd0 (by omega)]
theorem shl_step {r : Nat} (hr : r < 32) {x c : Int} (hx : 0 ≤ x ∧ x < 4294967296) (hc : 0 ≤ c ∧ c < 2 ^ r) :
  ∃ dg cy, Go.bits .or .u32 (shl .u32 x (r : Int)) c = dg ∧ shr .u64 (IntKind.u64.wrap x) (32 - (r : Int)) % 4294967296 = cy ∧ 0 ≤ dg ∧ dg < 4294967296 ∧ 0 ≤ cy ∧ cy < 2 ^ r ∧ dg + 4294967296 * cy = x * 2 ^ r + c := by
 obtain ⟨e1, e2, b1, b2, b3, b4⟩ := shl_limb hr hx hc
 have e := Int.emod_add_mul_ediv (x * 2 ^ r) 4294967296
 refine ⟨_, _, e1, e2, b1, b2, b3, b4, ?_⟩
 clear e1 e2 b1 b2 b3 b4 hc hx
 generalize x * 2 ^ r = X at *
 omega
theorem two_pow_le' : ∀ r : Fin 32, (2 : Int) ^ r.val ≤ 4294967296 := by decide +kernel
theorem two_pow_le {r : Nat} (hr : r < 32) : (2 : Int) ^ r ≤ 4294967296 := two_pow_le' ⟨r, hr⟩
theorem nshl_l {t : List Int} (ht : W t) {s : Int} {q r : Nat} {T : Int} (hTB : T ≤ 4294967296) (hr : r < 32) (hs : Aside0 (Int.tmod s 32 = (r : Int))) (hl : q + t.length < 35184372088832)
  (step : ∀ x c : Int, 0 ≤ x ∧ x < 4294967296 → 0 ≤ c ∧ c < T → ∃ dg cy, Go.bits .or .u32 (shl .u32 x (r : Int)) c = dg ∧ shr .u64 (IntKind.u64.wrap x) (32 - (r : Int)) % 4294967296 = cy ∧ 0 ≤ dg ∧ dg < 4294967296 ∧ 0 ≤ cy ∧ cy < T ∧ dg + 4294967296 * cy = x * T + c) :
  ∀ (d i : Nat) (o : List Int) (c : Int), t.length - i = d → i ≤ t.length → W o → o.length = q + i → 0 ≤ c ∧ c < T →
   Aside0 (V o + P (q + i) * c = P q * (T * V (t.take i))) → Ev (fun k => nat_Shl.l0 k s o c t (t.length : Int) (i : Int)) (L (P q * (T * V t)), true) := by
 intro d
 induction d with
 | zero =>
  intro i o c hd hi hw ho hc HV
  obtain rfl : i = t.length := by omega
  refine Ev_up ?_
  unfold nat_Shl.l0
  refine Ev_neg (by omega) ?_
  refine Ev_pos (by omega) ?_
  refine Ev_some (trim_f (W_append hw (W_one hc.1 (by omega)))) ?_
  refine Ev_now ?_
  have hv := HV.out
  rw [List.take_length] at hv
  rw [V_snoc, ho, hv]
 | succ d ih =>
  intro i o c hd hi hw ho hc HV
  have w1 : wrap64 ((i : Int) + 1) = ((i + 1 : Nat) : Int) := by unfold wrap64; omega
  have w2 : wrap64 (32 - (r : Int)) = 32 - (r : Int) := by unfold wrap64; omega
  have rt := W_rd ht (i : Int)
  obtain ⟨dg, cy, e1, e2, b1, b2, b3, b4, hs0⟩ := step _ c rt hc
  have HS := Aside0.mk hs0
  clear hs0
  have key : Aside0 (V (o ++ [dg]) + P (q + (i + 1)) * cy = P q * (T * V (t.take (i + 1)))) := ⟨by
   have hv := HV.out
   have hs1 := HS.out
   rw [V_snoc, ho, V_take_succ' t i, show q + (i + 1) = q + i + 1 by omega, P_succ, P_add]
   rw [P_add] at hv
   clear e1 e2 ih
   grind⟩
  have hrec := ih (i + 1) (o ++ [dg]) cy (by omega) (by omega) (W_append hw (W_one b1 b2)) (by simp [ho]; omega) ⟨b3, b4⟩ key
  refine Ev_up ?_
  unfold nat_Shl.l0
  refine Ev_pos (by omega) ?_
  refine Ev_pos (by omega) ?_
  refine Ev_pos (by omega) ?_
  rw [hs.out, w1, w2, e1, e2]
  refine Ev_pos (by omega) ?_
  refine Ev_pos (by omega) ?_
  refine Ev_pos (by omega) ?_
  exact hrec
theorem two_pow_split {s : Int} {q r : Nat} (h : s = 32 * (q : Int) + (r : Int)) : (2 : Int) ^ s.toNat = P q * 2 ^ r := by
 rw [show s.toNat = 32 * q + r by omega, Int.pow_add, P_pow]
theorem nshl_f {a : List Int} (ha : W a) (sa : a.length < 35184370000000) (s : Int) : Ev (fun k => nat_Shl.f k a s) (shS (V a) s) := by
 have la := L_len_le ha
 have va := V_nonneg ha
 unfold shS
 by_cases h0 : s < 0
 ·rw [if_pos h0]
  refine Ev_pos h0 ?_
  refine Ev_up ?_
  unfold nat_Shl.j0
  refine Ev_pos rfl ?_
  exact Ev.now _
 ·rw [if_neg h0]
  refine Ev_neg h0 ?_
  refine Ev_up ?_
  unfold nat_Shl.j0
  by_cases h1 : s > 65536
  ·rw [if_pos h1, decide_eq_true h1]
   refine Ev_pos rfl ?_
   exact Ev.now _
  ·rw [if_neg h1, decide_eq_false h1]
   refine Ev_neg (by decide) ?_
   have e1 : Int.tdiv s 32 = s / 32 := Int.tdiv_eq_ediv_of_nonneg (by omega)
   have e2 : Aside0 (Int.tmod s 32 = ((s % 32).toNat : Int)) := ⟨by rw [Int.tmod_eq_emod_of_nonneg (by omega)]; omega⟩
   have w1 : wrap64 (Int.tdiv s 32) = ((s / 32).toNat : Int) := by rw [e1]; clear e1; unfold wrap64; omega
   clear e1
   rw [w1, Int.toNat_natCast]
   refine Ev_pos (by omega) ?_
   refine Ev_pos (by omega) ?_
   refine Ev_some (trim_f ha) ?_
   have h := nshl_l (W_L (V a)) (s := s) (q := (s / 32).toNat) (r := (s % 32).toNat) (two_pow_le (by omega)) (by omega) e2 (by omega) (fun x c hx hc => shl_step (by omega) hx hc) _ 0 (List.replicate (s / 32).toNat 0) 0 rfl (Nat.zero_le _) (W_replicate _) (by simp) ⟨by omega, Int.pow_pos (by decide)⟩ ⟨by simp [V_replicate, V_nil]⟩
   refine Ev_eq h ?_
   rw [V_L va, two_pow_split (s := s) (q := (s / 32).toNat) (r := (s % 32).toNat) (by omega), Int.mul_comm (V a), Int.mul_assoc]
end Go.Proofs.YtncdiodnbkhacaaDoor.N
end
section
namespace Go.Proofs.YtncdiodnbkhacaaDoor.N
set_option linter.unusedVariables false
set_option linter.unusedSimpArgs false
open Go.RowKit Go.Proofs.YtncdiodnbkhacaaDoorW.PrintWords Go.Proofs.YtncdiodnbkhacaaDoorW.PrintLast Go.Proofs.YtncdiodnbkhacaaDoor.Pq
theorem two_pow_mono {m n : Nat} (h : m ≤ n) : (2 : Int) ^ m ≤ 2 ^ n := by
 obtain ⟨d, rfl⟩ := Nat.exists_eq_add_of_le h
 rw [Int.pow_add]
 have h1 : (0 : Int) < 2 ^ m := Int.pow_pos (by decide)
 have h2 : (0 : Int) < 2 ^ d := Int.pow_pos (by decide)
 have h3 : (2 : Int) ^ m * 1 ≤ 2 ^ m * 2 ^ d := Int.mul_le_mul_of_nonneg_left (by omega) (by omega)
 omega
theorem shS_ok {x s : Int} (h0 : 0 ≤ s) (h1 : s ≤ 65536) : shS x s = (L (x * 2 ^ s.toNat), true) := by
 unfold shS
 rw [if_neg (by omega), if_neg (by omega)]
theorem Nm.shl {a : List Int} {n : Nat} {x : Int} (h : Nm a n x) (hn : n < 35184360000000) (s : Int) : Ev (fun k => nat_Shl.f k a s) (shS x s) := by
 have h1 := h.le
 have e := nshl_f h.w (by omega) s
 rwa [h.v] at e
theorem Nm.bits {a : List Int} {n : Nat} {x : Int} (h : Nm a n x) (hn : n < 35184360000000) : nat_Bits.f a = some (bl x) := by
 have h1 := h.le
 have e := nbits_f h.w (by unfold Sm; omega)
 rwa [h.v] at e
theorem bl_shift {x : Int} (h : 0 < x) (n : Nat) : bl (x * 2 ^ n) = bl x + (n : Int) := by
 have h1 := bl_log h
 have hT : (0 : Int) < 2 ^ n := Int.pow_pos (by decide)
 have k1 : (2 : Int) ^ x.toNat.log2 * 2 ^ n ≤ x * 2 ^ n := Int.mul_le_mul_of_nonneg_right h1.1 (by omega)
 have k2 : x * 2 ^ n < (2 : Int) ^ (x.toNat.log2 + 1) * 2 ^ n := Int.mul_lt_mul_of_pos_right h1.2 hT
 rw [← Int.pow_add] at k1 k2
 rw [bl_of (m := x.toNat.log2 + n) k1 (by rw [show x.toNat.log2 + n + 1 = x.toNat.log2 + 1 + n by omega]; exact k2)]
 have e : bl x = (x.toNat.log2 : Int) + 1 := bl_of h1.1 h1.2
 omega
theorem Nm.bl_le {l : List Int} {n : Nat} {x : Int} (h : Nm l n x) : bl x ≤ 32 * (n : Int) := by
 by_cases hp : 0 < x
 ·obtain ⟨i, hi, hr⟩ := rd_last hp
  have h1 := bl_V (W_L x) i hi hr
  rw [V_L h.pos] at h1
  have h2 := bl_32 (W_rd (W_L x) (i : Int)).2
  have h3 := h.norm.le
  omega
 ·have := h.pos
  obtain rfl : x = 0 := by omega
  rw [bl_zero]
  omega
end Go.Proofs.YtncdiodnbkhacaaDoor.N
end
