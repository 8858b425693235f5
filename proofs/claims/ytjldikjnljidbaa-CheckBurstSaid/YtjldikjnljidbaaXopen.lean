-- Written by a program of this session (wip/tools/xprint.py) out of the translation. Not trusted: Lean checks it.
import Derived.Test.YtjldikjnljidbaaMyOpen
import Derived.Test.YtjldikjnljidbaaXx0
namespace Go.Proofs.Ytjldikjnljidbaa.X
open Go.RowKit Go.ChangeShapes Go.WideShapes Go.Deep Go.Proofs.YtjldikjnljidbaaW Go.Proofs.YtjldikjnljidbaaW.PrintWords
set_option linter.unusedVariables false

end Go.Proofs.Ytjldikjnljidbaa.X
