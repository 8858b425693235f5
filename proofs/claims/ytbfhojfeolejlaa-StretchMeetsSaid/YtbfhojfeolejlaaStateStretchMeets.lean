-- Written by a program of this session (wip/tools/xprint.py) out of the translation. Not trusted: Lean checks it.
import Derived.Test.YtbfhojfeolejlaaXx5
import Derived.Test.YtbfhojfeolejlaaXopen
namespace Go.Proofs.Ytbfhojfeolejlaa.X
open Go.RowKit Go.Proofs.YtbfhojfeolejlaaW
/-- WHAT IS TO BE PROVED OF weirkeeperlaw03_StretchMeets. -/
def weirkeeperlaw03_StretchMeets.Pure : Prop := ∀ (l0 : List (S25)) (a1 : ByteArray), (Open.okList ok25) l0 → a1.size ≤ 140737488351232 → (∃ k, weirkeeperlaw03_StretchMeets.f k l0 a1 = some true)
end Go.Proofs.Ytbfhojfeolejlaa.X
