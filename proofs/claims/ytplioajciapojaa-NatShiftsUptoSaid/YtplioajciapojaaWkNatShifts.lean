/- The walk of the law 'NatShifts', for slices of at most 1048576 numbers: what the printed walk says, joined to the plain form. -/
import Derived.Test.YtplioajciapojaaPqx12
namespace Go.Proofs.Ytplioajciapojaa.Pq
open Go.RowKit Go.Proofs.YtplioajciapojaaW.PrintWords Go.Proofs.YtplioajciapojaaW.PrintLast Go.Proofs.YtplioajciapojaaW.PrintMore
set_option linter.unusedVariables false
def penumbralaw01_NatShifts.PureU : Prop := ∀ (l0 : List Int) (a1 : Int) (a2 : Int), l0.length ≤ maxLen → l0.length ≤ 1048576 → (∀ x ∈ l0, (Lit.int .u32 x).wf = true) → (Lit.int .i64 a1).wf = true → (Lit.int .i64 a2).wf = true → ∃ k, penumbralaw01_NatShifts.f k l0 a1 a2 = some true
theorem penumbralaw01_NatShifts.walkU (P : penumbralaw01_NatShifts.PureU) (a0 : Option Addr) (len0 cap0 : Nat) (z0 : List Int) (a1 : Int) (a2 : Int) (w : World) (w0 : (a0 = none ∧ len0 = 0 ∧ cap0 = 0 ∧ z0 = []) ∨ ∃ x, a0 = some x ∧ len0 ≤ cap0 ∧ cap0 ≤ maxLen ∧ z0.length = cap0 ∧ (∀ i, i < z0.length → w.cell? (x.add i) = some (.int .u32 (z0.getD i 0))) ∧ ∀ n ∈ z0, (Lit.int .u32 n).wf = true) (y0 : len0 ≤ 1048576) (w1 : (Lit.int .i64 a1).wf = true) (w2 : (Lit.int .i64 a2).wf = true) :
    Calls Try.prog 8 #[.slice a0 len0 cap0, .int .i64 a1, .int .i64 a2] w fun e w' => e = .returned (.bool true) ∧ Below w.heap.size w w' := by
  obtain ⟨l0, rfl, hr0, hm0, hw0, hc0⟩ := ReadsInt.ofRowC w0
  obtain ⟨k, h⟩ := P l0 a1 a2 hm0 y0 hw0 w1 w2
  refine (penumbralaw01_NatShifts.calls k _ _ l0 a1 a2 true w (Kd.C_of_reads (d := (0 : Int)) (h1 := fun _ => rfl) hr0) hc0 h).mono ?_
  rintro e w' ⟨rfl, hd⟩
  exact ⟨rfl, hd⟩

end Go.Proofs.Ytplioajciapojaa.Pq
