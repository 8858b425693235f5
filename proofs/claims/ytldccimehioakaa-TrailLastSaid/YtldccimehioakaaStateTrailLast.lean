-- Written by a program of this session (wip/tools/xprint.py) out of the translation. Not trusted: Lean checks it.
import Derived.Test.YtldccimehioakaaXx28
import Derived.Test.YtldccimehioakaaXopen
namespace Go.Proofs.Ytldccimehioakaa.X
open Go.RowKit Go.Proofs.YtldccimehioakaaW
/-- WHAT IS TO BE PROVED OF weirkeeperlaw16_TrailLast. -/
def weirkeeperlaw16_TrailLast.Pure : Prop := ∀ (l0 : List (S30)) (a1_0 : Int) (a1_1 : ByteArray) (a1_2 : Bool) (a1_3 : ByteArray) (a1_4 : Bool) (a1_5 : ByteArray), (Open.okList ok30) l0 → ok30 (⟨a1_0, a1_1, a1_2, a1_3, a1_4, a1_5⟩ : S30) → (∃ k, weirkeeperlaw16_TrailLast.f k l0 a1_0 a1_1 a1_2 a1_3 a1_4 a1_5 = some true)
end Go.Proofs.Ytldccimehioakaa.X
