-- Written by a program of this session (wip/tools/xprint.py) out of the translation. Not trusted: Lean checks it.
import Derived.Test.YtldccimehioakaaXx26
import Derived.Test.YtldccimehioakaaXopen
namespace Go.Proofs.Ytldccimehioakaa.X
open Go.RowKit Go.Proofs.YtldccimehioakaaW
/-- WHAT IS TO BE PROVED OF weirkeeperlaw16_TrailDrops. -/
def weirkeeperlaw16_TrailDrops.Pure : Prop := ∀ (l0 : List (S30)) (a1 : Int) (a2 : Int) (a3 : Int) (a4_0 : ByteArray) (a4_1 : ByteArray) (a4_2 : Bool), (Open.okList ok30) l0 → (Open.okInt .i64) a1 → (Open.okInt .i64) a2 → (Open.okInt .i64) a3 → ok35 (⟨a4_0, a4_1, a4_2⟩ : S35) → (∃ k, weirkeeperlaw16_TrailDrops.f k l0 a1 a2 a3 a4_0 a4_1 a4_2 = some true)
end Go.Proofs.Ytldccimehioakaa.X
