-- Written by a program of this session (wip/tools/xprint.py) out of the translation. Not trusted: Lean checks it.
import Derived.Test.YtldccimehioakaaXx24
import Derived.Test.YtldccimehioakaaXopen
namespace Go.Proofs.Ytldccimehioakaa.X
open Go.RowKit Go.Proofs.YtldccimehioakaaW
/-- WHAT IS TO BE PROVED OF weirkeeperlaw16_TrailParts. -/
def weirkeeperlaw16_TrailParts.Pure : Prop := ∀ (l0 : List (S30)) (a1 : Int) (a2 : Int) (a3_0 : ByteArray) (a3_1 : ByteArray) (a3_2 : Bool), (Open.okList ok30) l0 → (Open.okInt .i64) a1 → (Open.okInt .u8) a2 → ok35 (⟨a3_0, a3_1, a3_2⟩ : S35) → (weirkeeperlaw16_TrailParts.f l0 a1 a2 a3_0 a3_1 a3_2 = some true)
end Go.Proofs.Ytldccimehioakaa.X
