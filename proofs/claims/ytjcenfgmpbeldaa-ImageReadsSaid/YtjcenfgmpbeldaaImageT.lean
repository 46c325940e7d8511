/-
  ImageT: lemmas on what Go functions of this seat come to (for whatever arguments, as each says). No condition but those that stand in each lemma.
-/
import Derived.Test.YtjcenfgmpbeldaaImageF0
namespace Go.Proofs.Ytjcenfgmpbeldaa
open Go Go.Ev
set_option maxRecDepth 100000
set_option linter.unusedVariables false
/-! 97: penstock/image.without$1 (x: int) -/
/-! 74: (*penstock/image.Image).fence$1 (x: int) -/
/-! 98: slices.IndexFunc[[]int,int] (s: []int, f: func(int) bool) -/
/-! 98: slices.IndexFunc[[]int,int] (s: []int, f: func(int) bool) -/
/-! 96: slices.DeleteFunc[[]int,int] (s: []int, del: func(int) bool) -/
/-! 73: slices.ContainsFunc[[]int,int] (s: []int, f: func(int) bool) -/
/-! 72: penstock/image.without (l: []int, n: int) -/
/-! 38: (*penstock/image.Image).fence (m: *image.Image, n: int) -/
end Go.Proofs.Ytjcenfgmpbeldaa
