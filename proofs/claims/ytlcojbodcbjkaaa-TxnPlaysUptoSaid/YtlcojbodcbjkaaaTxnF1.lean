/-
  TxnF1: lemmas on what Go functions of this seat come to (for whatever arguments, as each says). No condition but those that stand in each lemma.
-/
import Derived.Test.YtlcojbodcbjkaaaTxnF0
namespace Go.Proofs.Ytlcojbodcbjkaaa
open Go Go.Ev
set_option maxRecDepth 100000
set_option linter.unusedVariables false
/-! 24: penstock/penstocklaw15.life (s: *txn.State, o: penstocklaw15.Op, next: uint64) -/
end Go.Proofs.Ytlcojbodcbjkaaa
