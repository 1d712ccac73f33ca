/-
  No cell of these rows narrows 'for every input' (looked for: loops, veiled, ifaces, maps, wideKeys, modest, calm, conditions, laid).
  DERIVED. THE GIVEN ROWS OF THIS SEAT. 5 by the template 'for every input the law returns true; each argument reads behind the call as it read before'; 0 by the template 'total and deterministic' (their statements: YtjiaobcoeegioaaTotals.lean).
  GIVEN WITH THE SEED: the statements are not yours to turn. If you find one false, say at which input.
  Laid BY PROGRAM, IN A SANDBOX (cutbox-rows.mjs): the forced cells as the released guide's own fill.sh prints them over the translation 8ebdfa6f385eef09… (all of the seat's roots in one cut). By AI agents, Wed Nov 11 2026. No macro, syntax, notation, axiom, sorry.
-/
import Derived.Test.YtjiaobcoeegioaaChecked
import GoSem.Claim
import GoSem.ClaimJoined
import GoSem.ClaimMapViews
import Derived.JoinedTies
import Derived.KernelRfl
namespace Go.Proofs.Ytjiaobcoeegioaa
/- THE CELL 'sum', in the pinned program and in every row, IS THE sha256 OF THE DUMP (.gsa) THAT YtjiaobcoeegioaaProg.lean LOADS. Nothing in Lean hashes anything: it is a label: what it is worth is what the hold of that sum in a sandbox is worth. -/
noncomputable def Try.pinned : Pinned := { name := "ytjiaobcoeegioaa", sum := "8ebdfa6f385eef097fd6987f414f954671f32d8195858609e0439a0cfd06ad61", checked := Try.checked }
namespace Rows
def none {H : Type} : Left H := { results := [], args := [] }

/-- 'penumbralaw25.PoolPlays': WHATEVER THE INPUT: true; the input reads as it did. -/
def poolPlaysSpec : ChangeSpec := { name := "poolPlays", fn := fun _ => fun
  | [d1, d2, d3] => { results := [.lit (.bool true)], args := [d1, d2, d3] }
  | _ => none }
def poolPlaysRow : OpenClaim := { program := "ytjiaobcoeegioaa", sum := "8ebdfa6f385eef097fd6987f414f954671f32d8195858609e0439a0cfd06ad61", func := "penumbra/penumbralaw25.PoolPlays", spec := "poolPlays", unfollowed := true, recurses := true, named := ["math/bits.overflowError"], apart := false }
def PoolPlaysSaid : Prop := poolPlaysRow.holds Try.pinned (OpenSpec.ofChange poolPlaysSpec)

/-- ITS FALSE NEIGHBOUR: 'it returns false'. Refute it at one input. -/
def poolPlaysWrong : ChangeSpec := { name := "poolPlays", fn := fun _ => fun
  | [d1, d2, d3] => { results := [.lit (.bool false)], args := [d1, d2, d3] }
  | _ => none }
def PoolPlaysWrongFalsely : Prop := poolPlaysRow.holds Try.pinned (OpenSpec.ofChange poolPlaysWrong)

/-- 'penumbralaw25.PoolSums': WHATEVER THE INPUT: true; the input reads as it did. -/
def poolSumsSpec : ChangeSpec := { name := "poolSums", fn := fun _ => fun
  | [d1, d2, d3] => { results := [.lit (.bool true)], args := [d1, d2, d3] }
  | _ => none }
def poolSumsRow : OpenClaim := { program := "ytjiaobcoeegioaa", sum := "8ebdfa6f385eef097fd6987f414f954671f32d8195858609e0439a0cfd06ad61", func := "penumbra/penumbralaw25.PoolSums", spec := "poolSums", unfollowed := true, recurses := true, named := ["math/bits.overflowError"], apart := false }
def PoolSumsSaid : Prop := poolSumsRow.holds Try.pinned (OpenSpec.ofChange poolSumsSpec)

/-- ITS FALSE NEIGHBOUR: 'it returns false'. Refute it at one input. -/
def poolSumsWrong : ChangeSpec := { name := "poolSums", fn := fun _ => fun
  | [d1, d2, d3] => { results := [.lit (.bool false)], args := [d1, d2, d3] }
  | _ => none }
def PoolSumsWrongFalsely : Prop := poolSumsRow.holds Try.pinned (OpenSpec.ofChange poolSumsWrong)

/-- 'penumbralaw25.PoolNear': WHATEVER THE INPUT: true; the input reads as it did. -/
def poolNearSpec : ChangeSpec := { name := "poolNear", fn := fun _ => fun
  | [d1, d2, d3] => { results := [.lit (.bool true)], args := [d1, d2, d3] }
  | _ => none }
def poolNearRow : OpenClaim := { program := "ytjiaobcoeegioaa", sum := "8ebdfa6f385eef097fd6987f414f954671f32d8195858609e0439a0cfd06ad61", func := "penumbra/penumbralaw25.PoolNear", spec := "poolNear", unfollowed := true, recurses := true, named := ["math/bits.overflowError"], apart := false }
def PoolNearSaid : Prop := poolNearRow.holds Try.pinned (OpenSpec.ofChange poolNearSpec)

/-- ITS FALSE NEIGHBOUR: 'it returns false'. Refute it at one input. -/
def poolNearWrong : ChangeSpec := { name := "poolNear", fn := fun _ => fun
  | [d1, d2, d3] => { results := [.lit (.bool false)], args := [d1, d2, d3] }
  | _ => none }
def PoolNearWrongFalsely : Prop := poolNearRow.holds Try.pinned (OpenSpec.ofChange poolNearWrong)

/-- 'penumbralaw25.PoolAny': WHATEVER THE INPUT: true; the input reads as it did. -/
def poolAnySpec : ChangeSpec := { name := "poolAny", fn := fun _ => fun
  | [d1, d2, d3] => { results := [.lit (.bool true)], args := [d1, d2, d3] }
  | _ => none }
def poolAnyRow : OpenClaim := { program := "ytjiaobcoeegioaa", sum := "8ebdfa6f385eef097fd6987f414f954671f32d8195858609e0439a0cfd06ad61", func := "penumbra/penumbralaw25.PoolAny", spec := "poolAny", unfollowed := true, recurses := true, named := ["math/bits.overflowError"], apart := false }
def PoolAnySaid : Prop := poolAnyRow.holds Try.pinned (OpenSpec.ofChange poolAnySpec)

/-- ITS FALSE NEIGHBOUR: 'it returns false'. Refute it at one input. -/
def poolAnyWrong : ChangeSpec := { name := "poolAny", fn := fun _ => fun
  | [d1, d2, d3] => { results := [.lit (.bool false)], args := [d1, d2, d3] }
  | _ => none }
def PoolAnyWrongFalsely : Prop := poolAnyRow.holds Try.pinned (OpenSpec.ofChange poolAnyWrong)

/-- 'penumbralaw25.PoolSplits': WHATEVER THE INPUT: true; the input reads as it did. -/
def poolSplitsSpec : ChangeSpec := { name := "poolSplits", fn := fun _ => fun
  | [d1, d2, d3] => { results := [.lit (.bool true)], args := [d1, d2, d3] }
  | _ => none }
def poolSplitsRow : OpenClaim := { program := "ytjiaobcoeegioaa", sum := "8ebdfa6f385eef097fd6987f414f954671f32d8195858609e0439a0cfd06ad61", func := "penumbra/penumbralaw25.PoolSplits", spec := "poolSplits", unfollowed := true, recurses := true, named := ["math/bits.overflowError"], apart := false }
def PoolSplitsSaid : Prop := poolSplitsRow.holds Try.pinned (OpenSpec.ofChange poolSplitsSpec)

/-- ITS FALSE NEIGHBOUR: 'it returns false'. Refute it at one input. -/
def poolSplitsWrong : ChangeSpec := { name := "poolSplits", fn := fun _ => fun
  | [d1, d2, d3] => { results := [.lit (.bool false)], args := [d1, d2, d3] }
  | _ => none }
def PoolSplitsWrongFalsely : Prop := poolSplitsRow.holds Try.pinned (OpenSpec.ofChange poolSplitsWrong)

/- THE SECOND FORM. 'bulk': how many values and letters a reading holds, each counted each time it is reached (what is shared counts as often as it is met; a slice's spare places count too). A statement '..UptoSaid' is the law's where the arguments, and the package variables that the reading takes, are together of bulk at most 1048576: NARROWER than '..Said'. Prove '..Said' where nothing that the law and all that it calls make is longer than what came in: it says more and counts as full. Else prove '..UptoSaid'. A law counts once. -/
mutual
def uptoBulk {H : Type} : DataW H → Nat
  | .lit (.string bytes) => bytes.length + 1
  | .lit _ => 1
  | .nil => 1
  | .ptr d => uptoBulk d + 1
  | .slice elems spare => uptoBulkAll elems + uptoBulkAll spare + 1
  | .agg parts => uptoBulkAll parts + 1
  | .iface _ d => uptoBulk d + 1
  | .map entries => uptoBulkEntries entries + 1
  | .held _ => 1
def uptoBulkAll {H : Type} : List (DataW H) → Nat
  | [] => 0
  | d :: r => uptoBulk d + uptoBulkAll r
def uptoBulkEntries {H : Type} : List (Lit × DataW H) → Nat
  | [] => 0
  | x :: r => uptoBulkEntry x + uptoBulkEntries r
def uptoBulkEntry {H : Type} : Lit × DataW H → Nat
  | (.string bytes, d) => bytes.length + uptoBulk d + 1
  | (_, d) => uptoBulk d + 1
 end
def uptoSmall : (H : Type) → List (DataW H) → Bool := fun _ ds => decide (uptoBulkAll ds ≤ 1048576)
def OpenSpec.upto (s : _root_.Go.ChangeSpec) : _root_.Go.OpenSpec := { _root_.Go.OpenSpec.ofChange s with cond := some uptoSmall }

/-- 'penumbralaw25.PoolPlays', WHERE WHAT IT READS IS OF BULK AT MOST 1048576: true; the input reads as it did. -/
def poolPlaysUptoRow : OpenClaim := { program := "ytjiaobcoeegioaa", sum := "8ebdfa6f385eef097fd6987f414f954671f32d8195858609e0439a0cfd06ad61", func := "penumbra/penumbralaw25.PoolPlays", spec := "poolPlays", unfollowed := true, recurses := true, named := ["math/bits.overflowError"], apart := false, narrowed := true }
def PoolPlaysUptoSaid : Prop := poolPlaysUptoRow.holds Try.pinned (OpenSpec.upto poolPlaysSpec)

/-- 'penumbralaw25.PoolSums', WHERE WHAT IT READS IS OF BULK AT MOST 1048576: true; the input reads as it did. -/
def poolSumsUptoRow : OpenClaim := { program := "ytjiaobcoeegioaa", sum := "8ebdfa6f385eef097fd6987f414f954671f32d8195858609e0439a0cfd06ad61", func := "penumbra/penumbralaw25.PoolSums", spec := "poolSums", unfollowed := true, recurses := true, named := ["math/bits.overflowError"], apart := false, narrowed := true }
def PoolSumsUptoSaid : Prop := poolSumsUptoRow.holds Try.pinned (OpenSpec.upto poolSumsSpec)

/-- 'penumbralaw25.PoolNear', WHERE WHAT IT READS IS OF BULK AT MOST 1048576: true; the input reads as it did. -/
def poolNearUptoRow : OpenClaim := { program := "ytjiaobcoeegioaa", sum := "8ebdfa6f385eef097fd6987f414f954671f32d8195858609e0439a0cfd06ad61", func := "penumbra/penumbralaw25.PoolNear", spec := "poolNear", unfollowed := true, recurses := true, named := ["math/bits.overflowError"], apart := false, narrowed := true }
def PoolNearUptoSaid : Prop := poolNearUptoRow.holds Try.pinned (OpenSpec.upto poolNearSpec)

/-- 'penumbralaw25.PoolAny', WHERE WHAT IT READS IS OF BULK AT MOST 1048576: true; the input reads as it did. -/
def poolAnyUptoRow : OpenClaim := { program := "ytjiaobcoeegioaa", sum := "8ebdfa6f385eef097fd6987f414f954671f32d8195858609e0439a0cfd06ad61", func := "penumbra/penumbralaw25.PoolAny", spec := "poolAny", unfollowed := true, recurses := true, named := ["math/bits.overflowError"], apart := false, narrowed := true }
def PoolAnyUptoSaid : Prop := poolAnyUptoRow.holds Try.pinned (OpenSpec.upto poolAnySpec)

/-- 'penumbralaw25.PoolSplits', WHERE WHAT IT READS IS OF BULK AT MOST 1048576: true; the input reads as it did. -/
def poolSplitsUptoRow : OpenClaim := { program := "ytjiaobcoeegioaa", sum := "8ebdfa6f385eef097fd6987f414f954671f32d8195858609e0439a0cfd06ad61", func := "penumbra/penumbralaw25.PoolSplits", spec := "poolSplits", unfollowed := true, recurses := true, named := ["math/bits.overflowError"], apart := false, narrowed := true }
def PoolSplitsUptoSaid : Prop := poolSplitsUptoRow.holds Try.pinned (OpenSpec.upto poolSplitsSpec)

end Rows
end Go.Proofs.Ytjiaobcoeegioaa
