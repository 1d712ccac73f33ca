/-
  NARROWER THAN 'FOR EVERY INPUT', by the rows' own cells (each row's printed sentence says how): DecimalParses: laid · DecimalPrints: laid · DecimalTens: laid · DecimalBack: laid · DecimalPoints: laid.
  DERIVED. THE GIVEN ROWS OF THIS SEAT. 5 by the template 'for every input the law returns true; each argument reads behind the call as it read before'; 0 by the template 'total and deterministic' (their statements: YtncdiodnbkhacaaDoorTotals.lean).
  GIVEN WITH THE SEED: the statements are not yours to turn. If you find one false, say at which input.
  Laid BY PROGRAM, IN A SANDBOX (cutbox-rows.mjs): the forced cells as the released guide's own fill.sh prints them over the translation b2c77730e6654eec… (all of the seat's roots in one cut). By AI agents, Wed Nov 11 2026. No macro, syntax, notation, axiom, sorry.
-/
import Derived.Test.YtncdiodnbkhacaaDoorChecked
import GoSem.PinnedTables
import GoSem.Claim
import GoSem.ClaimJoined
import GoSem.ClaimMapViews
import Derived.JoinedTies
import Derived.KernelRfl
namespace Go.Proofs.YtncdiodnbkhacaaDoor
/- THE CELL 'sum', in the pinned program and in every row, IS THE sha256 OF THE DUMP (.gsa) THAT YtncdiodnbkhacaaDoorProg.lean LOADS. Nothing in Lean hashes anything: it is a label: what it is worth is what the hold of that sum in a sandbox is worth. -/
noncomputable def Tryd.pinned : Pinned := { name := "ytncdiodnbkhacaadoor", sum := "b2c77730e6654eecb535c5303b796c6368c15893006b887c2b83b9d19562bdb5", checked := Tryd.checked }
namespace Rows
def none {H : Type} : Left H := { results := [], args := [] }

/- WHAT THE LISTED PACKAGE-LEVEL VARIABLES READ AS WHEN THE CALL BEGINS. Each datum BY PROGRAM (the guide's laid-datum.mjs) off the statement by which the dump's own 'gosem.cut.vars' lays the variable. In a bare row this is a premise. The card (YtncdiodnbkhacaaDoorCards.lean) ties it to the program's text. -/
def laid_unicode_utf8_acceptRanges {H : Type} : DataW H := .agg [.agg [.lit (.int .u8 128), .lit (.int .u8 191)], .agg [.lit (.int .u8 160), .lit (.int .u8 191)], .agg [.lit (.int .u8 128), .lit (.int .u8 159)], .agg [.lit (.int .u8 144), .lit (.int .u8 191)], .agg [.lit (.int .u8 128), .lit (.int .u8 143)], .agg [.lit (.int .u8 0), .lit (.int .u8 0)], .agg [.lit (.int .u8 0), .lit (.int .u8 0)], .agg [.lit (.int .u8 0), .lit (.int .u8 0)], .agg [.lit (.int .u8 0), .lit (.int .u8 0)], .agg [.lit (.int .u8 0), .lit (.int .u8 0)], .agg [.lit (.int .u8 0), .lit (.int .u8 0)], .agg [.lit (.int .u8 0), .lit (.int .u8 0)], .agg [.lit (.int .u8 0), .lit (.int .u8 0)], .agg [.lit (.int .u8 0), .lit (.int .u8 0)], .agg [.lit (.int .u8 0), .lit (.int .u8 0)], .agg [.lit (.int .u8 0), .lit (.int .u8 0)]]
/-- One of Go's own tables, pinned by name: the form's constant. -/
def laid_unicode_utf8_first : DataW Unit := Go.Pinned.utf8First

/-- 'penumbralaw04.DecimalParses': WHATEVER THE INPUT: true; the input reads as it did. -/
def decimalParsesSpec : ChangeSpec := { name := "decimalParses", fn := fun _ => fun
  | [d] => { results := [.lit (.bool true)], args := [d] }
  | _ => none }
def decimalParsesRow : OpenClaim := { program := "ytncdiodnbkhacaadoor", sum := "b2c77730e6654eecb535c5303b796c6368c15893006b887c2b83b9d19562bdb5", func := "penumbra/penumbralaw04.DecimalParses", spec := "decimalParses", inPlace := ["internal/bytealg.IndexByteString", "internal/bytealg.IndexString", "internal/abi.NoEscape", "internal/bytealg.MakeNoZero"], unfollowed := true, recurses := true, named := ["math/bits.overflowError", "unicode/utf8.first", "unicode/utf8.acceptRanges", "internal/bytealg.MaxLen"], apart := false, laid := [("unicode/utf8.acceptRanges", laid_unicode_utf8_acceptRanges), ("unicode/utf8.first", laid_unicode_utf8_first)] }
def DecimalParsesSaid : Prop := decimalParsesRow.holds Tryd.pinned (OpenSpec.ofChange decimalParsesSpec)

/-- ITS FALSE NEIGHBOUR: 'it returns false'. Refute it at one input. -/
def decimalParsesWrong : ChangeSpec := { name := "decimalParses", fn := fun _ => fun
  | [d] => { results := [.lit (.bool false)], args := [d] }
  | _ => none }
def DecimalParsesWrongFalsely : Prop := decimalParsesRow.holds Tryd.pinned (OpenSpec.ofChange decimalParsesWrong)

/-- 'penumbralaw04.DecimalPrints': WHATEVER THE INPUT: true; the input reads as it did. -/
def decimalPrintsSpec : ChangeSpec := { name := "decimalPrints", fn := fun _ => fun
  | [d] => { results := [.lit (.bool true)], args := [d] }
  | _ => none }
def decimalPrintsRow : OpenClaim := { program := "ytncdiodnbkhacaadoor", sum := "b2c77730e6654eecb535c5303b796c6368c15893006b887c2b83b9d19562bdb5", func := "penumbra/penumbralaw04.DecimalPrints", spec := "decimalPrints", inPlace := ["internal/bytealg.IndexByteString", "internal/bytealg.IndexString", "internal/abi.NoEscape", "internal/bytealg.MakeNoZero"], unfollowed := true, recurses := true, named := ["math/bits.overflowError", "unicode/utf8.first", "unicode/utf8.acceptRanges", "internal/bytealg.MaxLen"], apart := false, laid := [("unicode/utf8.acceptRanges", laid_unicode_utf8_acceptRanges), ("unicode/utf8.first", laid_unicode_utf8_first)] }
def DecimalPrintsSaid : Prop := decimalPrintsRow.holds Tryd.pinned (OpenSpec.ofChange decimalPrintsSpec)

/-- ITS FALSE NEIGHBOUR: 'it returns false'. Refute it at one input. -/
def decimalPrintsWrong : ChangeSpec := { name := "decimalPrints", fn := fun _ => fun
  | [d] => { results := [.lit (.bool false)], args := [d] }
  | _ => none }
def DecimalPrintsWrongFalsely : Prop := decimalPrintsRow.holds Tryd.pinned (OpenSpec.ofChange decimalPrintsWrong)

/-- 'penumbralaw04.DecimalTens': WHATEVER THE INPUT: true; the input reads as it did. -/
def decimalTensSpec : ChangeSpec := { name := "decimalTens", fn := fun _ => fun
  | [d] => { results := [.lit (.bool true)], args := [d] }
  | _ => none }
def decimalTensRow : OpenClaim := { program := "ytncdiodnbkhacaadoor", sum := "b2c77730e6654eecb535c5303b796c6368c15893006b887c2b83b9d19562bdb5", func := "penumbra/penumbralaw04.DecimalTens", spec := "decimalTens", inPlace := ["internal/bytealg.IndexByteString", "internal/bytealg.IndexString", "internal/abi.NoEscape", "internal/bytealg.MakeNoZero"], unfollowed := true, recurses := true, named := ["math/bits.overflowError", "unicode/utf8.first", "unicode/utf8.acceptRanges", "internal/bytealg.MaxLen"], apart := false, laid := [("unicode/utf8.acceptRanges", laid_unicode_utf8_acceptRanges), ("unicode/utf8.first", laid_unicode_utf8_first)] }
def DecimalTensSaid : Prop := decimalTensRow.holds Tryd.pinned (OpenSpec.ofChange decimalTensSpec)

/-- ITS FALSE NEIGHBOUR: 'it returns false'. Refute it at one input. -/
def decimalTensWrong : ChangeSpec := { name := "decimalTens", fn := fun _ => fun
  | [d] => { results := [.lit (.bool false)], args := [d] }
  | _ => none }
def DecimalTensWrongFalsely : Prop := decimalTensRow.holds Tryd.pinned (OpenSpec.ofChange decimalTensWrong)

/-- 'penumbralaw04.DecimalBack': WHATEVER THE INPUT: true; the input reads as it did. -/
def decimalBackSpec : ChangeSpec := { name := "decimalBack", fn := fun _ => fun
  | [d1, d2] => { results := [.lit (.bool true)], args := [d1, d2] }
  | _ => none }
def decimalBackRow : OpenClaim := { program := "ytncdiodnbkhacaadoor", sum := "b2c77730e6654eecb535c5303b796c6368c15893006b887c2b83b9d19562bdb5", func := "penumbra/penumbralaw04.DecimalBack", spec := "decimalBack", inPlace := ["internal/bytealg.IndexByteString", "internal/bytealg.IndexString", "internal/abi.NoEscape", "internal/bytealg.MakeNoZero"], unfollowed := true, recurses := true, named := ["math/bits.overflowError", "unicode/utf8.first", "unicode/utf8.acceptRanges", "internal/bytealg.MaxLen"], apart := false, laid := [("unicode/utf8.acceptRanges", laid_unicode_utf8_acceptRanges), ("unicode/utf8.first", laid_unicode_utf8_first)] }
def DecimalBackSaid : Prop := decimalBackRow.holds Tryd.pinned (OpenSpec.ofChange decimalBackSpec)

/-- ITS FALSE NEIGHBOUR: 'it returns false'. Refute it at one input. -/
def decimalBackWrong : ChangeSpec := { name := "decimalBack", fn := fun _ => fun
  | [d1, d2] => { results := [.lit (.bool false)], args := [d1, d2] }
  | _ => none }
def DecimalBackWrongFalsely : Prop := decimalBackRow.holds Tryd.pinned (OpenSpec.ofChange decimalBackWrong)

/-- 'penumbralaw04.DecimalPoints': WHATEVER THE INPUT: true; the input reads as it did. -/
def decimalPointsSpec : ChangeSpec := { name := "decimalPoints", fn := fun _ => fun
  | [d1, d2, d3] => { results := [.lit (.bool true)], args := [d1, d2, d3] }
  | _ => none }
def decimalPointsRow : OpenClaim := { program := "ytncdiodnbkhacaadoor", sum := "b2c77730e6654eecb535c5303b796c6368c15893006b887c2b83b9d19562bdb5", func := "penumbra/penumbralaw04.DecimalPoints", spec := "decimalPoints", inPlace := ["internal/bytealg.IndexByteString", "internal/bytealg.IndexString", "internal/abi.NoEscape", "internal/bytealg.MakeNoZero"], unfollowed := true, recurses := true, named := ["math/bits.overflowError", "unicode/utf8.first", "unicode/utf8.acceptRanges", "internal/bytealg.MaxLen"], apart := false, laid := [("unicode/utf8.acceptRanges", laid_unicode_utf8_acceptRanges), ("unicode/utf8.first", laid_unicode_utf8_first)] }
def DecimalPointsSaid : Prop := decimalPointsRow.holds Tryd.pinned (OpenSpec.ofChange decimalPointsSpec)

/-- ITS FALSE NEIGHBOUR: 'it returns false'. Refute it at one input. -/
def decimalPointsWrong : ChangeSpec := { name := "decimalPoints", fn := fun _ => fun
  | [d1, d2, d3] => { results := [.lit (.bool false)], args := [d1, d2, d3] }
  | _ => none }
def DecimalPointsWrongFalsely : Prop := decimalPointsRow.holds Tryd.pinned (OpenSpec.ofChange decimalPointsWrong)

/- THE SECOND FORM. 'bulk': how many values and letters a reading holds, each counted each time it is reached (what is shared counts as often as it is met; a slice's spare places count too). A statement '..UptoSaid' is the law's where the arguments, and the package variables that the reading takes, are together of bulk at most 1048576: NARROWER than '..Said'. Prove '..Said' where nothing that the law and all that it calls make is longer than what came in: it says more and counts as full. Else prove '..UptoSaid'. A law counts once. -/
mutual
def uptoBulk {H : Type} : DataW H → Nat
  | .lit (.string bytes) => bytes.length + 1
  | .lit _ => 1
  | .nil => 1
  | .ptr d => uptoBulk d + 1
  | .slice elems spare => uptoBulkAll elems + uptoBulkAll spare + 1
  | .agg parts => uptoBulkAll parts + 1
  | .iface _ d => uptoBulk d + 1
  | .map entries => uptoBulkEntries entries + 1
  | .held _ => 1
def uptoBulkAll {H : Type} : List (DataW H) → Nat
  | [] => 0
  | d :: r => uptoBulk d + uptoBulkAll r
def uptoBulkEntries {H : Type} : List (Lit × DataW H) → Nat
  | [] => 0
  | x :: r => uptoBulkEntry x + uptoBulkEntries r
def uptoBulkEntry {H : Type} : Lit × DataW H → Nat
  | (.string bytes, d) => bytes.length + uptoBulk d + 1
  | (_, d) => uptoBulk d + 1
 end
def uptoSmall : (H : Type) → List (DataW H) → Bool := fun _ ds => decide (uptoBulkAll ds ≤ 1048576)
def OpenSpec.upto (s : _root_.Go.ChangeSpec) : _root_.Go.OpenSpec := { _root_.Go.OpenSpec.ofChange s with cond := some uptoSmall }

/-- 'penumbralaw04.DecimalParses', WHERE WHAT IT READS IS OF BULK AT MOST 1048576: true; the input reads as it did. -/
def decimalParsesUptoRow : OpenClaim := { program := "ytncdiodnbkhacaadoor", sum := "b2c77730e6654eecb535c5303b796c6368c15893006b887c2b83b9d19562bdb5", func := "penumbra/penumbralaw04.DecimalParses", spec := "decimalParses", inPlace := ["internal/bytealg.IndexByteString", "internal/bytealg.IndexString", "internal/abi.NoEscape", "internal/bytealg.MakeNoZero"], unfollowed := true, recurses := true, named := ["math/bits.overflowError", "unicode/utf8.first", "unicode/utf8.acceptRanges", "internal/bytealg.MaxLen"], apart := false, laid := [("unicode/utf8.acceptRanges", laid_unicode_utf8_acceptRanges), ("unicode/utf8.first", laid_unicode_utf8_first)], narrowed := true }
def DecimalParsesUptoSaid : Prop := decimalParsesUptoRow.holds Tryd.pinned (OpenSpec.upto decimalParsesSpec)

/-- 'penumbralaw04.DecimalPrints', WHERE WHAT IT READS IS OF BULK AT MOST 1048576: true; the input reads as it did. -/
def decimalPrintsUptoRow : OpenClaim := { program := "ytncdiodnbkhacaadoor", sum := "b2c77730e6654eecb535c5303b796c6368c15893006b887c2b83b9d19562bdb5", func := "penumbra/penumbralaw04.DecimalPrints", spec := "decimalPrints", inPlace := ["internal/bytealg.IndexByteString", "internal/bytealg.IndexString", "internal/abi.NoEscape", "internal/bytealg.MakeNoZero"], unfollowed := true, recurses := true, named := ["math/bits.overflowError", "unicode/utf8.first", "unicode/utf8.acceptRanges", "internal/bytealg.MaxLen"], apart := false, laid := [("unicode/utf8.acceptRanges", laid_unicode_utf8_acceptRanges), ("unicode/utf8.first", laid_unicode_utf8_first)], narrowed := true }
def DecimalPrintsUptoSaid : Prop := decimalPrintsUptoRow.holds Tryd.pinned (OpenSpec.upto decimalPrintsSpec)

/-- 'penumbralaw04.DecimalTens', WHERE WHAT IT READS IS OF BULK AT MOST 1048576: true; the input reads as it did. -/
def decimalTensUptoRow : OpenClaim := { program := "ytncdiodnbkhacaadoor", sum := "b2c77730e6654eecb535c5303b796c6368c15893006b887c2b83b9d19562bdb5", func := "penumbra/penumbralaw04.DecimalTens", spec := "decimalTens", inPlace := ["internal/bytealg.IndexByteString", "internal/bytealg.IndexString", "internal/abi.NoEscape", "internal/bytealg.MakeNoZero"], unfollowed := true, recurses := true, named := ["math/bits.overflowError", "unicode/utf8.first", "unicode/utf8.acceptRanges", "internal/bytealg.MaxLen"], apart := false, laid := [("unicode/utf8.acceptRanges", laid_unicode_utf8_acceptRanges), ("unicode/utf8.first", laid_unicode_utf8_first)], narrowed := true }
def DecimalTensUptoSaid : Prop := decimalTensUptoRow.holds Tryd.pinned (OpenSpec.upto decimalTensSpec)

/-- 'penumbralaw04.DecimalBack', WHERE WHAT IT READS IS OF BULK AT MOST 1048576: true; the input reads as it did. -/
def decimalBackUptoRow : OpenClaim := { program := "ytncdiodnbkhacaadoor", sum := "b2c77730e6654eecb535c5303b796c6368c15893006b887c2b83b9d19562bdb5", func := "penumbra/penumbralaw04.DecimalBack", spec := "decimalBack", inPlace := ["internal/bytealg.IndexByteString", "internal/bytealg.IndexString", "internal/abi.NoEscape", "internal/bytealg.MakeNoZero"], unfollowed := true, recurses := true, named := ["math/bits.overflowError", "unicode/utf8.first", "unicode/utf8.acceptRanges", "internal/bytealg.MaxLen"], apart := false, laid := [("unicode/utf8.acceptRanges", laid_unicode_utf8_acceptRanges), ("unicode/utf8.first", laid_unicode_utf8_first)], narrowed := true }
def DecimalBackUptoSaid : Prop := decimalBackUptoRow.holds Tryd.pinned (OpenSpec.upto decimalBackSpec)

/-- 'penumbralaw04.DecimalPoints', WHERE WHAT IT READS IS OF BULK AT MOST 1048576: true; the input reads as it did. -/
def decimalPointsUptoRow : OpenClaim := { program := "ytncdiodnbkhacaadoor", sum := "b2c77730e6654eecb535c5303b796c6368c15893006b887c2b83b9d19562bdb5", func := "penumbra/penumbralaw04.DecimalPoints", spec := "decimalPoints", inPlace := ["internal/bytealg.IndexByteString", "internal/bytealg.IndexString", "internal/abi.NoEscape", "internal/bytealg.MakeNoZero"], unfollowed := true, recurses := true, named := ["math/bits.overflowError", "unicode/utf8.first", "unicode/utf8.acceptRanges", "internal/bytealg.MaxLen"], apart := false, laid := [("unicode/utf8.acceptRanges", laid_unicode_utf8_acceptRanges), ("unicode/utf8.first", laid_unicode_utf8_first)], narrowed := true }
def DecimalPointsUptoSaid : Prop := decimalPointsUptoRow.holds Tryd.pinned (OpenSpec.upto decimalPointsSpec)

end Rows
end Go.Proofs.YtncdiodnbkhacaaDoor
