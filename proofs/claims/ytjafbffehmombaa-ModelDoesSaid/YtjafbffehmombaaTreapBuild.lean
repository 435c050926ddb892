/-
  A map built of a row, walked.
-/
import Derived.Test.YtjafbffehmombaaTreapBuildP
set_option linter.unusedVariables false
set_option linter.unusedSimpArgs false
namespace Go.Proofs.Ytjafbffehmombaa
open Go Go.XL

end Go.Proofs.Ytjafbffehmombaa
