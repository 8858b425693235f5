-- Written by a program of this session (wip/tools/xprint.py) out of the translation. Not trusted: Lean checks it.
import Derived.Test.YtldccimehioakaaXx23
import Derived.Test.YtldccimehioakaaXopen
namespace Go.Proofs.Ytldccimehioakaa.X
open Go.RowKit Go.Proofs.YtldccimehioakaaW
/-- WHAT IS TO BE PROVED OF weirkeeperlaw16_TrailTells. -/
def weirkeeperlaw16_TrailTells.Pure : Prop := ∀ (l0 : List (S30)) (a1 : Int) (a2 : Int) (l3 : List (S35)), (Open.okList ok30) l0 → (Open.okInt .i64) a1 → (Open.okInt .i64) a2 → (Open.okList ok35) l3 → (∃ k, weirkeeperlaw16_TrailTells.f k l0 a1 a2 l3 = some true)
end Go.Proofs.Ytldccimehioakaa.X
