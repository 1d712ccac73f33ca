import Derived.Test.YtplioajciapojaaWTab
namespace Go.Proofs.YtplioajciapojaaW.PrintLast
def up (b : Nat → Bool) (i : Nat) : Nat → Bool := fun j => if j = i then true else b j
end Go.Proofs.YtplioajciapojaaW.PrintLast
