import Derived.Test.YtplioajciapojaaWWords
set_option linter.unusedVariables false
set_option linter.unusedSimpArgs false
namespace Go.Proofs.YtplioajciapojaaW.PrintWords
open Go.RowKit
theorem own_same (A : Option Addr) (n c n' c' : Nat) : (Value.slice A n c).ownBlock = (Value.slice A n' c').ownBlock := by cases A <;> rfl
namespace Kd
theorem R_takeC {α : Type} {d : Kd α} {e m n c c' : Nat} {w : World} {base : Nat} {ok : Nat → Prop} {A : Option Addr} {xs : List α} (h : d.R e w base ok (.slice A n c) xs) (hm : m ≤ xs.length) (hc : m ≤ c') (hc' : c' ≤ c) : d.R e w base ok (.slice A m c') (xs.take m) := by
  obtain ⟨h0, inner, ho, hr⟩ := h
  have hn : n = xs.length := by
    obtain ⟨A', c1, he⟩ := own_slice ho
    injection he
  subst hn
  have hb : ∀ x y cx cy : Nat, (Value.slice A x cx).ownBlock = (Value.slice A y cy).ownBlock := by
    intro x y cx cy
    cases A <;> rfl
  refine ⟨fun k hk => h0 k (by rw [hb _ m c c']; exact hk), inner.take (m * d.sz), ?_, ?_⟩
  · rw [List.length_take, Nat.min_eq_left hm]
    exact slack_take ho hm hc hc'
  · rw [hb m xs.length c' c]
    exact reps_take hr hm
theorem R_addr {α : Type} {d : Kd α} {e n c base : Nat} {w : World} {ok : Nat → Prop} {A : Option Addr} {xs : List α} (h : d.R e w base ok (.slice A n c) xs) (hp : 0 < xs.length) : ∃ g, A = some ⟨g, 0, none⟩ ∧ base ≤ g ∧ ok g := by
  obtain ⟨g, cap, he, hb, _⟩ := R_form h hp
  injection he with ha hn hc
  subst ha
  exact ⟨g, rfl, hb, h.1 g rfl⟩
theorem C_of_len {α : Type} {d : Kd α} {w : World} {A : Option Addr} {n m : Nat} {xs : List α} (h : n = m) (hc : d.C w A n xs) : d.C w A m xs := h ▸ hc
section
variable {P : Program} {ops : Array Oper} {rest : List Oper} {o : Oper} {a : Act} {Q : Exit → Act → World → Prop} {α : Type}
theorem R_make0 (d : Kd α) {w0 W : World} (base e : Nat) (hgd : o.guard = none) {N : Tmp} (hd : o.dst = some N) (t : TypeId) (x y : Operand) (ho : o.op = .makeSlice t x y) (n : Int) (hx : a.eval x = .int .i64 0) (hy : a.eval y = .int .i64 n)
    (ht : P.underlying t = some (.slice e)) (z : Value) (bytes : Nat) (hinfo : (P.info? e).map (fun i => (i.zero, i.size, i.bytes)) = some (some z, d.sz, bytes)) (hz : z.cells.size = d.sz) (hs0 : 0 < d.sz) (hb0 : 0 < bytes)
    {ok : Nat → Prop} (hfresh : ok W.heap.size) (h0 : 0 ≤ n) (hl : n.toNat * bytes ≤ 281474976710656) (HB : Below base w0 W) (hbase : base ≤ W.heap.size)
    (h : ∀ v1 w1, d.R e w1 base ok v1 ([] : List α) → Below base w0 w1 → W.grownBy w1 none → (∃ b, v1.ownBlock = some b ∧ W.heap.size ≤ b) → wpList P ops Q rest (a.put o.dst v1) w1) : wpList P ops Q (o :: rest) a W := by
  obtain ⟨m, rfl⟩ := Int.eq_ofNat_of_zero_le h0
  simp only [Int.toNat_natCast] at hl
  obtain ⟨i0, hi, hzz⟩ := Option.map_eq_some_iff.1 hinfo
  simp only [Prod.mk.injEq] at hzz
  obtain ⟨hz0, hz1, hz2⟩ := hzz
  have hm : m ≤ 281474976710656 := Nat.le_trans (Nat.le_mul_of_pos_right _ hb0) hl
  have hr := run_make (P := P) W t e i0 z ht hi hz0 .i64 .i64 (0 : Int) (m : Int) (by omega) (by omega)
    (by
      have h3 : ((i0.bytes * m : Nat) : Int) ≤ 281474976710656 := by rw [hz2, Nat.mul_comm]; omega
      rwa [Int.natCast_mul] at h3) (by omega)
  simp only [Int.toNat_natCast] at hr
  rw [hz1] at hr
  have hg : W.grownBy (W.alloc (.cells (madeCells z.cells (m * d.sz)) e)) none := World.grownBy_alloc W _ none
  refine event_run hgd (by simp only [execOp, ho, hx, hy, hr, Sem.run_bind, Sem.run_pure, Result.andThen_ok, Result.andThen]; rfl) ?_
  refine h _ _ ⟨fun k hk => ?_, [], ⟨by simp, .inr ⟨W.heap.size, m, madeCells z.cells (m * d.sz), rfl, hbase, heap_alloc_new W _, Nat.zero_le _, by simp only [maxLen]; omega, by rw [size_madeCells]; exact Nat.le_refl _, by simp⟩⟩, Reps.none _ _⟩ (HB.alloc hbase _) hg ⟨W.heap.size, rfl, Nat.le_refl _⟩
  injection hk with hk
  subst hk
  exact hfresh
end
end Kd
theorem cut_win {P : Program} (t e : TypeId) (kl kh : IntKind) {i : TypeInfo} (ht : P.underlying t = some (.slice e)) (hi : P.info? e = some i) (hsz : i.size = 1) (A : Option Addr) (n c : Nat) (lo hi' : Int) (h0 : 0 ≤ lo) (h1 : lo < hi') (h2 : hi' ≤ n) (hc : n ≤ c) :
    ∀ W : World, (Instr.slice t (.slice A n c) (some (.int kl lo)) (some (.int kh hi')) none).run P W = .ok (.slice (A.map (fun a_ => a_.add lo.toNat)) (hi'.toNat - lo.toNat) (c - lo.toNat)) W := by
  intro W
  rw [cut_mid t e kl kh ht hi 1 hsz A n c lo hi' h0 (by omega) h2 hc W, if_neg (by omega), Nat.mul_one]
end Go.Proofs.YtplioajciapojaaW.PrintWords
