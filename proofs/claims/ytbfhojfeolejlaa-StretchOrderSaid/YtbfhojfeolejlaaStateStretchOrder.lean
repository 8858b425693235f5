-- Written by a program of this session (wip/tools/xprint.py) out of the translation. Not trusted: Lean checks it.
import Derived.Test.YtbfhojfeolejlaaXx12
import Derived.Test.YtbfhojfeolejlaaXopen
namespace Go.Proofs.Ytbfhojfeolejlaa.X
open Go.RowKit Go.Proofs.YtbfhojfeolejlaaW
/-- WHAT IS TO BE PROVED OF weirkeeperlaw03_StretchOrder. -/
def weirkeeperlaw03_StretchOrder.Pure : Prop := ∀ (l0 : List (S25)) (a1 : Int), (Open.okList ok25) l0 → (Open.okInt .u8) a1 → (∃ k, weirkeeperlaw03_StretchOrder.f k l0 a1 = some true)
end Go.Proofs.Ytbfhojfeolejlaa.X
