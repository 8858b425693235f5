-- Written by a program of this session (wip/tools/xprint.py) out of the translation. Not trusted: Lean checks it.
import Derived.Test.YtldccimehioakaaXx25
import Derived.Test.YtldccimehioakaaXopen
namespace Go.Proofs.Ytldccimehioakaa.X
open Go.RowKit Go.Proofs.YtldccimehioakaaW
/-- WHAT IS TO BE PROVED OF weirkeeperlaw16_TrailNewest. -/
def weirkeeperlaw16_TrailNewest.Pure : Prop := ∀ (l0 : List (S30)) (a1 : Int) (a2 : Int), (Open.okList ok30) l0 → (Open.okInt .i64) a1 → (Open.okInt .i64) a2 → (∃ k, weirkeeperlaw16_TrailNewest.f k l0 a1 a2 = some true)
end Go.Proofs.Ytldccimehioakaa.X
