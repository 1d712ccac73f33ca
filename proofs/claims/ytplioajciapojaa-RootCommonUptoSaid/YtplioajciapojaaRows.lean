/-
  No cell of these rows narrows 'for every input' (looked for: loops, veiled, ifaces, maps, wideKeys, modest, calm, conditions, laid).
  DERIVED. THE GIVEN ROWS OF THIS SEAT. 13 by the template 'for every input the law returns true; each argument reads behind the call as it read before'; 0 by the template 'total and deterministic' (their statements: YtplioajciapojaaTotals.lean).
  GIVEN WITH THE SEED: the statements are not yours to turn. If you find one false, say at which input.
  Laid BY PROGRAM, IN A SANDBOX (cutbox-rows.mjs): the forced cells as the released guide's own fill.sh prints them over the translation 3fd23f4860cc8cf5… (all of the seat's roots in one cut). By AI agents, Wed Nov 11 2026. No macro, syntax, notation, axiom, sorry.
-/
import Derived.Test.YtplioajciapojaaChecked
import GoSem.Claim
import GoSem.ClaimJoined
import GoSem.ClaimMapViews
import Derived.JoinedTies
import Derived.KernelRfl
namespace Go.Proofs.Ytplioajciapojaa
/- THE CELL 'sum', in the pinned program and in every row, IS THE sha256 OF THE DUMP (.gsa) THAT YtplioajciapojaaProg.lean LOADS. Nothing in Lean hashes anything: it is a label: what it is worth is what the hold of that sum in a sandbox is worth. -/
noncomputable def Try.pinned : Pinned := { name := "ytplioajciapojaa", sum := "3fd23f4860cc8cf5d9ca81de8db234448577b9f15dd08a8193ed56f1635cf098", checked := Try.checked }
namespace Rows
def none {H : Type} : Left H := { results := [], args := [] }

/-- 'penumbralaw01.NatMuls': WHATEVER THE INPUT: true; the input reads as it did. -/
def natMulsSpec : ChangeSpec := { name := "natMuls", fn := fun _ => fun
  | [d1, d2, d3] => { results := [.lit (.bool true)], args := [d1, d2, d3] }
  | _ => none }
def natMulsRow : OpenClaim := { program := "ytplioajciapojaa", sum := "3fd23f4860cc8cf5d9ca81de8db234448577b9f15dd08a8193ed56f1635cf098", func := "penumbra/penumbralaw01.NatMuls", spec := "natMuls", named := ["math/bits.overflowError"], apart := false }
def NatMulsSaid : Prop := natMulsRow.holds Try.pinned (OpenSpec.ofChange natMulsSpec)

/-- ITS FALSE NEIGHBOUR: 'it returns false'. Refute it at one input. -/
def natMulsWrong : ChangeSpec := { name := "natMuls", fn := fun _ => fun
  | [d1, d2, d3] => { results := [.lit (.bool false)], args := [d1, d2, d3] }
  | _ => none }
def NatMulsWrongFalsely : Prop := natMulsRow.holds Try.pinned (OpenSpec.ofChange natMulsWrong)

/-- 'penumbralaw01.NatDivides': WHATEVER THE INPUT: true; the input reads as it did. -/
def natDividesSpec : ChangeSpec := { name := "natDivides", fn := fun _ => fun
  | [d1, d2] => { results := [.lit (.bool true)], args := [d1, d2] }
  | _ => none }
def natDividesRow : OpenClaim := { program := "ytplioajciapojaa", sum := "3fd23f4860cc8cf5d9ca81de8db234448577b9f15dd08a8193ed56f1635cf098", func := "penumbra/penumbralaw01.NatDivides", spec := "natDivides", named := ["math/bits.overflowError"], apart := false }
def NatDividesSaid : Prop := natDividesRow.holds Try.pinned (OpenSpec.ofChange natDividesSpec)

/-- ITS FALSE NEIGHBOUR: 'it returns false'. Refute it at one input. -/
def natDividesWrong : ChangeSpec := { name := "natDivides", fn := fun _ => fun
  | [d1, d2] => { results := [.lit (.bool false)], args := [d1, d2] }
  | _ => none }
def NatDividesWrongFalsely : Prop := natDividesRow.holds Try.pinned (OpenSpec.ofChange natDividesWrong)

/-- 'penumbralaw01.NatRing': WHATEVER THE INPUT: true; the input reads as it did. -/
def natRingSpec : ChangeSpec := { name := "natRing", fn := fun _ => fun
  | [d1, d2, d3] => { results := [.lit (.bool true)], args := [d1, d2, d3] }
  | _ => none }
def natRingRow : OpenClaim := { program := "ytplioajciapojaa", sum := "3fd23f4860cc8cf5d9ca81de8db234448577b9f15dd08a8193ed56f1635cf098", func := "penumbra/penumbralaw01.NatRing", spec := "natRing", named := ["math/bits.overflowError"], apart := false }
def NatRingSaid : Prop := natRingRow.holds Try.pinned (OpenSpec.ofChange natRingSpec)

/-- ITS FALSE NEIGHBOUR: 'it returns false'. Refute it at one input. -/
def natRingWrong : ChangeSpec := { name := "natRing", fn := fun _ => fun
  | [d1, d2, d3] => { results := [.lit (.bool false)], args := [d1, d2, d3] }
  | _ => none }
def NatRingWrongFalsely : Prop := natRingRow.holds Try.pinned (OpenSpec.ofChange natRingWrong)

/-- 'penumbralaw01.NatBack': WHATEVER THE INPUT: true; the input reads as it did. -/
def natBackSpec : ChangeSpec := { name := "natBack", fn := fun _ => fun
  | [d1, d2] => { results := [.lit (.bool true)], args := [d1, d2] }
  | _ => none }
def natBackRow : OpenClaim := { program := "ytplioajciapojaa", sum := "3fd23f4860cc8cf5d9ca81de8db234448577b9f15dd08a8193ed56f1635cf098", func := "penumbra/penumbralaw01.NatBack", spec := "natBack", named := ["math/bits.overflowError"], apart := false }
def NatBackSaid : Prop := natBackRow.holds Try.pinned (OpenSpec.ofChange natBackSpec)

/-- ITS FALSE NEIGHBOUR: 'it returns false'. Refute it at one input. -/
def natBackWrong : ChangeSpec := { name := "natBack", fn := fun _ => fun
  | [d1, d2] => { results := [.lit (.bool false)], args := [d1, d2] }
  | _ => none }
def NatBackWrongFalsely : Prop := natBackRow.holds Try.pinned (OpenSpec.ofChange natBackWrong)

/-- 'penumbralaw01.NatOrders': WHATEVER THE INPUT: true; the input reads as it did. -/
def natOrdersSpec : ChangeSpec := { name := "natOrders", fn := fun _ => fun
  | [d1, d2, d3] => { results := [.lit (.bool true)], args := [d1, d2, d3] }
  | _ => none }
def natOrdersRow : OpenClaim := { program := "ytplioajciapojaa", sum := "3fd23f4860cc8cf5d9ca81de8db234448577b9f15dd08a8193ed56f1635cf098", func := "penumbra/penumbralaw01.NatOrders", spec := "natOrders", named := ["math/bits.overflowError"], apart := false }
def NatOrdersSaid : Prop := natOrdersRow.holds Try.pinned (OpenSpec.ofChange natOrdersSpec)

/-- ITS FALSE NEIGHBOUR: 'it returns false'. Refute it at one input. -/
def natOrdersWrong : ChangeSpec := { name := "natOrders", fn := fun _ => fun
  | [d1, d2, d3] => { results := [.lit (.bool false)], args := [d1, d2, d3] }
  | _ => none }
def NatOrdersWrongFalsely : Prop := natOrdersRow.holds Try.pinned (OpenSpec.ofChange natOrdersWrong)

/-- 'penumbralaw01.NatShifts': WHATEVER THE INPUT: true; the input reads as it did. -/
def natShiftsSpec : ChangeSpec := { name := "natShifts", fn := fun _ => fun
  | [d1, d2, d3] => { results := [.lit (.bool true)], args := [d1, d2, d3] }
  | _ => none }
def natShiftsRow : OpenClaim := { program := "ytplioajciapojaa", sum := "3fd23f4860cc8cf5d9ca81de8db234448577b9f15dd08a8193ed56f1635cf098", func := "penumbra/penumbralaw01.NatShifts", spec := "natShifts", named := ["math/bits.overflowError"], apart := false }
def NatShiftsSaid : Prop := natShiftsRow.holds Try.pinned (OpenSpec.ofChange natShiftsSpec)

/-- ITS FALSE NEIGHBOUR: 'it returns false'. Refute it at one input. -/
def natShiftsWrong : ChangeSpec := { name := "natShifts", fn := fun _ => fun
  | [d1, d2, d3] => { results := [.lit (.bool false)], args := [d1, d2, d3] }
  | _ => none }
def NatShiftsWrongFalsely : Prop := natShiftsRow.holds Try.pinned (OpenSpec.ofChange natShiftsWrong)

/-- 'penumbralaw01.NatAdds': WHATEVER THE INPUT: true; the input reads as it did. -/
def natAddsSpec : ChangeSpec := { name := "natAdds", fn := fun _ => fun
  | [d1, d2, d3] => { results := [.lit (.bool true)], args := [d1, d2, d3] }
  | _ => none }
def natAddsRow : OpenClaim := { program := "ytplioajciapojaa", sum := "3fd23f4860cc8cf5d9ca81de8db234448577b9f15dd08a8193ed56f1635cf098", func := "penumbra/penumbralaw01.NatAdds", spec := "natAdds", named := ["math/bits.overflowError"], apart := false }
def NatAddsSaid : Prop := natAddsRow.holds Try.pinned (OpenSpec.ofChange natAddsSpec)

/-- ITS FALSE NEIGHBOUR: 'it returns false'. Refute it at one input. -/
def natAddsWrong : ChangeSpec := { name := "natAdds", fn := fun _ => fun
  | [d1, d2, d3] => { results := [.lit (.bool false)], args := [d1, d2, d3] }
  | _ => none }
def NatAddsWrongFalsely : Prop := natAddsRow.holds Try.pinned (OpenSpec.ofChange natAddsWrong)

/-- 'penumbralaw02.RootGcds': WHATEVER THE INPUT: true; the input reads as it did. -/
def rootGcdsSpec : ChangeSpec := { name := "rootGcds", fn := fun _ => fun
  | [d1, d2] => { results := [.lit (.bool true)], args := [d1, d2] }
  | _ => none }
def rootGcdsRow : OpenClaim := { program := "ytplioajciapojaa", sum := "3fd23f4860cc8cf5d9ca81de8db234448577b9f15dd08a8193ed56f1635cf098", func := "penumbra/penumbralaw02.RootGcds", spec := "rootGcds", named := ["math/bits.overflowError"], apart := false }
def RootGcdsSaid : Prop := rootGcdsRow.holds Try.pinned (OpenSpec.ofChange rootGcdsSpec)

/-- ITS FALSE NEIGHBOUR: 'it returns false'. Refute it at one input. -/
def rootGcdsWrong : ChangeSpec := { name := "rootGcds", fn := fun _ => fun
  | [d1, d2] => { results := [.lit (.bool false)], args := [d1, d2] }
  | _ => none }
def RootGcdsWrongFalsely : Prop := rootGcdsRow.holds Try.pinned (OpenSpec.ofChange rootGcdsWrong)

/-- 'penumbralaw02.RootSquares': WHATEVER THE INPUT: true; the input reads as it did. -/
def rootSquaresSpec : ChangeSpec := { name := "rootSquares", fn := fun _ => fun
  | [d] => { results := [.lit (.bool true)], args := [d] }
  | _ => none }
def rootSquaresRow : OpenClaim := { program := "ytplioajciapojaa", sum := "3fd23f4860cc8cf5d9ca81de8db234448577b9f15dd08a8193ed56f1635cf098", func := "penumbra/penumbralaw02.RootSquares", spec := "rootSquares", named := ["math/bits.overflowError"], apart := false }
def RootSquaresSaid : Prop := rootSquaresRow.holds Try.pinned (OpenSpec.ofChange rootSquaresSpec)

/-- ITS FALSE NEIGHBOUR: 'it returns false'. Refute it at one input. -/
def rootSquaresWrong : ChangeSpec := { name := "rootSquares", fn := fun _ => fun
  | [d] => { results := [.lit (.bool false)], args := [d] }
  | _ => none }
def RootSquaresWrongFalsely : Prop := rootSquaresRow.holds Try.pinned (OpenSpec.ofChange rootSquaresWrong)

/-- 'penumbralaw02.RootCommon': WHATEVER THE INPUT: true; the input reads as it did. -/
def rootCommonSpec : ChangeSpec := { name := "rootCommon", fn := fun _ => fun
  | [d1, d2, d3] => { results := [.lit (.bool true)], args := [d1, d2, d3] }
  | _ => none }
def rootCommonRow : OpenClaim := { program := "ytplioajciapojaa", sum := "3fd23f4860cc8cf5d9ca81de8db234448577b9f15dd08a8193ed56f1635cf098", func := "penumbra/penumbralaw02.RootCommon", spec := "rootCommon", named := ["math/bits.overflowError"], apart := false }
def RootCommonSaid : Prop := rootCommonRow.holds Try.pinned (OpenSpec.ofChange rootCommonSpec)

/-- ITS FALSE NEIGHBOUR: 'it returns false'. Refute it at one input. -/
def rootCommonWrong : ChangeSpec := { name := "rootCommon", fn := fun _ => fun
  | [d1, d2, d3] => { results := [.lit (.bool false)], args := [d1, d2, d3] }
  | _ => none }
def RootCommonWrongFalsely : Prop := rootCommonRow.holds Try.pinned (OpenSpec.ofChange rootCommonWrong)

/-- 'penumbralaw02.RootFactors': WHATEVER THE INPUT: true; the input reads as it did. -/
def rootFactorsSpec : ChangeSpec := { name := "rootFactors", fn := fun _ => fun
  | [d1, d2, d3] => { results := [.lit (.bool true)], args := [d1, d2, d3] }
  | _ => none }
def rootFactorsRow : OpenClaim := { program := "ytplioajciapojaa", sum := "3fd23f4860cc8cf5d9ca81de8db234448577b9f15dd08a8193ed56f1635cf098", func := "penumbra/penumbralaw02.RootFactors", spec := "rootFactors", named := ["math/bits.overflowError"], apart := false }
def RootFactorsSaid : Prop := rootFactorsRow.holds Try.pinned (OpenSpec.ofChange rootFactorsSpec)

/-- ITS FALSE NEIGHBOUR: 'it returns false'. Refute it at one input. -/
def rootFactorsWrong : ChangeSpec := { name := "rootFactors", fn := fun _ => fun
  | [d1, d2, d3] => { results := [.lit (.bool false)], args := [d1, d2, d3] }
  | _ => none }
def RootFactorsWrongFalsely : Prop := rootFactorsRow.holds Try.pinned (OpenSpec.ofChange rootFactorsWrong)

/-- 'penumbralaw02.RootBetween': WHATEVER THE INPUT: true; the input reads as it did. -/
def rootBetweenSpec : ChangeSpec := { name := "rootBetween", fn := fun _ => fun
  | [d] => { results := [.lit (.bool true)], args := [d] }
  | _ => none }
def rootBetweenRow : OpenClaim := { program := "ytplioajciapojaa", sum := "3fd23f4860cc8cf5d9ca81de8db234448577b9f15dd08a8193ed56f1635cf098", func := "penumbra/penumbralaw02.RootBetween", spec := "rootBetween", named := ["math/bits.overflowError"], apart := false }
def RootBetweenSaid : Prop := rootBetweenRow.holds Try.pinned (OpenSpec.ofChange rootBetweenSpec)

/-- ITS FALSE NEIGHBOUR: 'it returns false'. Refute it at one input. -/
def rootBetweenWrong : ChangeSpec := { name := "rootBetween", fn := fun _ => fun
  | [d] => { results := [.lit (.bool false)], args := [d] }
  | _ => none }
def RootBetweenWrongFalsely : Prop := rootBetweenRow.holds Try.pinned (OpenSpec.ofChange rootBetweenWrong)

/-- 'penumbralaw02.RootNext': WHATEVER THE INPUT: true; the input reads as it did. -/
def rootNextSpec : ChangeSpec := { name := "rootNext", fn := fun _ => fun
  | [d] => { results := [.lit (.bool true)], args := [d] }
  | _ => none }
def rootNextRow : OpenClaim := { program := "ytplioajciapojaa", sum := "3fd23f4860cc8cf5d9ca81de8db234448577b9f15dd08a8193ed56f1635cf098", func := "penumbra/penumbralaw02.RootNext", spec := "rootNext", named := ["math/bits.overflowError"], apart := false }
def RootNextSaid : Prop := rootNextRow.holds Try.pinned (OpenSpec.ofChange rootNextSpec)

/-- ITS FALSE NEIGHBOUR: 'it returns false'. Refute it at one input. -/
def rootNextWrong : ChangeSpec := { name := "rootNext", fn := fun _ => fun
  | [d] => { results := [.lit (.bool false)], args := [d] }
  | _ => none }
def RootNextWrongFalsely : Prop := rootNextRow.holds Try.pinned (OpenSpec.ofChange rootNextWrong)

/- THE SECOND FORM. 'bulk': how many values and letters a reading holds, each counted each time it is reached (what is shared counts as often as it is met; a slice's spare places count too). A statement '..UptoSaid' is the law's where the arguments, and the package variables that the reading takes, are together of bulk at most 1048576: NARROWER than '..Said'. Prove '..Said' where nothing that the law and all that it calls make is longer than what came in: it says more and counts as full. Else prove '..UptoSaid'. A law counts once. -/
mutual
def uptoBulk {H : Type} : DataW H → Nat
  | .lit (.string bytes) => bytes.length + 1
  | .lit _ => 1
  | .nil => 1
  | .ptr d => uptoBulk d + 1
  | .slice elems spare => uptoBulkAll elems + uptoBulkAll spare + 1
  | .agg parts => uptoBulkAll parts + 1
  | .iface _ d => uptoBulk d + 1
  | .map entries => uptoBulkEntries entries + 1
  | .held _ => 1
def uptoBulkAll {H : Type} : List (DataW H) → Nat
  | [] => 0
  | d :: r => uptoBulk d + uptoBulkAll r
def uptoBulkEntries {H : Type} : List (Lit × DataW H) → Nat
  | [] => 0
  | x :: r => uptoBulkEntry x + uptoBulkEntries r
def uptoBulkEntry {H : Type} : Lit × DataW H → Nat
  | (.string bytes, d) => bytes.length + uptoBulk d + 1
  | (_, d) => uptoBulk d + 1
 end
def uptoSmall : (H : Type) → List (DataW H) → Bool := fun _ ds => decide (uptoBulkAll ds ≤ 1048576)
def OpenSpec.upto (s : _root_.Go.ChangeSpec) : _root_.Go.OpenSpec := { _root_.Go.OpenSpec.ofChange s with cond := some uptoSmall }

/-- 'penumbralaw01.NatMuls', WHERE WHAT IT READS IS OF BULK AT MOST 1048576: true; the input reads as it did. -/
def natMulsUptoRow : OpenClaim := { program := "ytplioajciapojaa", sum := "3fd23f4860cc8cf5d9ca81de8db234448577b9f15dd08a8193ed56f1635cf098", func := "penumbra/penumbralaw01.NatMuls", spec := "natMuls", named := ["math/bits.overflowError"], apart := false, narrowed := true }
def NatMulsUptoSaid : Prop := natMulsUptoRow.holds Try.pinned (OpenSpec.upto natMulsSpec)

/-- 'penumbralaw01.NatDivides', WHERE WHAT IT READS IS OF BULK AT MOST 1048576: true; the input reads as it did. -/
def natDividesUptoRow : OpenClaim := { program := "ytplioajciapojaa", sum := "3fd23f4860cc8cf5d9ca81de8db234448577b9f15dd08a8193ed56f1635cf098", func := "penumbra/penumbralaw01.NatDivides", spec := "natDivides", named := ["math/bits.overflowError"], apart := false, narrowed := true }
def NatDividesUptoSaid : Prop := natDividesUptoRow.holds Try.pinned (OpenSpec.upto natDividesSpec)

/-- 'penumbralaw01.NatRing', WHERE WHAT IT READS IS OF BULK AT MOST 1048576: true; the input reads as it did. -/
def natRingUptoRow : OpenClaim := { program := "ytplioajciapojaa", sum := "3fd23f4860cc8cf5d9ca81de8db234448577b9f15dd08a8193ed56f1635cf098", func := "penumbra/penumbralaw01.NatRing", spec := "natRing", named := ["math/bits.overflowError"], apart := false, narrowed := true }
def NatRingUptoSaid : Prop := natRingUptoRow.holds Try.pinned (OpenSpec.upto natRingSpec)

/-- 'penumbralaw01.NatBack', WHERE WHAT IT READS IS OF BULK AT MOST 1048576: true; the input reads as it did. -/
def natBackUptoRow : OpenClaim := { program := "ytplioajciapojaa", sum := "3fd23f4860cc8cf5d9ca81de8db234448577b9f15dd08a8193ed56f1635cf098", func := "penumbra/penumbralaw01.NatBack", spec := "natBack", named := ["math/bits.overflowError"], apart := false, narrowed := true }
def NatBackUptoSaid : Prop := natBackUptoRow.holds Try.pinned (OpenSpec.upto natBackSpec)

/-- 'penumbralaw01.NatOrders', WHERE WHAT IT READS IS OF BULK AT MOST 1048576: true; the input reads as it did. -/
def natOrdersUptoRow : OpenClaim := { program := "ytplioajciapojaa", sum := "3fd23f4860cc8cf5d9ca81de8db234448577b9f15dd08a8193ed56f1635cf098", func := "penumbra/penumbralaw01.NatOrders", spec := "natOrders", named := ["math/bits.overflowError"], apart := false, narrowed := true }
def NatOrdersUptoSaid : Prop := natOrdersUptoRow.holds Try.pinned (OpenSpec.upto natOrdersSpec)

/-- 'penumbralaw01.NatShifts', WHERE WHAT IT READS IS OF BULK AT MOST 1048576: true; the input reads as it did. -/
def natShiftsUptoRow : OpenClaim := { program := "ytplioajciapojaa", sum := "3fd23f4860cc8cf5d9ca81de8db234448577b9f15dd08a8193ed56f1635cf098", func := "penumbra/penumbralaw01.NatShifts", spec := "natShifts", named := ["math/bits.overflowError"], apart := false, narrowed := true }
def NatShiftsUptoSaid : Prop := natShiftsUptoRow.holds Try.pinned (OpenSpec.upto natShiftsSpec)

/-- 'penumbralaw01.NatAdds', WHERE WHAT IT READS IS OF BULK AT MOST 1048576: true; the input reads as it did. -/
def natAddsUptoRow : OpenClaim := { program := "ytplioajciapojaa", sum := "3fd23f4860cc8cf5d9ca81de8db234448577b9f15dd08a8193ed56f1635cf098", func := "penumbra/penumbralaw01.NatAdds", spec := "natAdds", named := ["math/bits.overflowError"], apart := false, narrowed := true }
def NatAddsUptoSaid : Prop := natAddsUptoRow.holds Try.pinned (OpenSpec.upto natAddsSpec)

/-- 'penumbralaw02.RootGcds', WHERE WHAT IT READS IS OF BULK AT MOST 1048576: true; the input reads as it did. -/
def rootGcdsUptoRow : OpenClaim := { program := "ytplioajciapojaa", sum := "3fd23f4860cc8cf5d9ca81de8db234448577b9f15dd08a8193ed56f1635cf098", func := "penumbra/penumbralaw02.RootGcds", spec := "rootGcds", named := ["math/bits.overflowError"], apart := false, narrowed := true }
def RootGcdsUptoSaid : Prop := rootGcdsUptoRow.holds Try.pinned (OpenSpec.upto rootGcdsSpec)

/-- 'penumbralaw02.RootSquares', WHERE WHAT IT READS IS OF BULK AT MOST 1048576: true; the input reads as it did. -/
def rootSquaresUptoRow : OpenClaim := { program := "ytplioajciapojaa", sum := "3fd23f4860cc8cf5d9ca81de8db234448577b9f15dd08a8193ed56f1635cf098", func := "penumbra/penumbralaw02.RootSquares", spec := "rootSquares", named := ["math/bits.overflowError"], apart := false, narrowed := true }
def RootSquaresUptoSaid : Prop := rootSquaresUptoRow.holds Try.pinned (OpenSpec.upto rootSquaresSpec)

/-- 'penumbralaw02.RootCommon', WHERE WHAT IT READS IS OF BULK AT MOST 1048576: true; the input reads as it did. -/
def rootCommonUptoRow : OpenClaim := { program := "ytplioajciapojaa", sum := "3fd23f4860cc8cf5d9ca81de8db234448577b9f15dd08a8193ed56f1635cf098", func := "penumbra/penumbralaw02.RootCommon", spec := "rootCommon", named := ["math/bits.overflowError"], apart := false, narrowed := true }
def RootCommonUptoSaid : Prop := rootCommonUptoRow.holds Try.pinned (OpenSpec.upto rootCommonSpec)

/-- 'penumbralaw02.RootFactors', WHERE WHAT IT READS IS OF BULK AT MOST 1048576: true; the input reads as it did. -/
def rootFactorsUptoRow : OpenClaim := { program := "ytplioajciapojaa", sum := "3fd23f4860cc8cf5d9ca81de8db234448577b9f15dd08a8193ed56f1635cf098", func := "penumbra/penumbralaw02.RootFactors", spec := "rootFactors", named := ["math/bits.overflowError"], apart := false, narrowed := true }
def RootFactorsUptoSaid : Prop := rootFactorsUptoRow.holds Try.pinned (OpenSpec.upto rootFactorsSpec)

/-- 'penumbralaw02.RootBetween', WHERE WHAT IT READS IS OF BULK AT MOST 1048576: true; the input reads as it did. -/
def rootBetweenUptoRow : OpenClaim := { program := "ytplioajciapojaa", sum := "3fd23f4860cc8cf5d9ca81de8db234448577b9f15dd08a8193ed56f1635cf098", func := "penumbra/penumbralaw02.RootBetween", spec := "rootBetween", named := ["math/bits.overflowError"], apart := false, narrowed := true }
def RootBetweenUptoSaid : Prop := rootBetweenUptoRow.holds Try.pinned (OpenSpec.upto rootBetweenSpec)

/-- 'penumbralaw02.RootNext', WHERE WHAT IT READS IS OF BULK AT MOST 1048576: true; the input reads as it did. -/
def rootNextUptoRow : OpenClaim := { program := "ytplioajciapojaa", sum := "3fd23f4860cc8cf5d9ca81de8db234448577b9f15dd08a8193ed56f1635cf098", func := "penumbra/penumbralaw02.RootNext", spec := "rootNext", named := ["math/bits.overflowError"], apart := false, narrowed := true }
def RootNextUptoSaid : Prop := rootNextUptoRow.holds Try.pinned (OpenSpec.upto rootNextSpec)

end Rows
end Go.Proofs.Ytplioajciapojaa
