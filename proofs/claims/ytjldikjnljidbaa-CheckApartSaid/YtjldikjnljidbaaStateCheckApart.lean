-- Written by a program of this session (wip/tools/xprint.py) out of the translation. Not trusted: Lean checks it.
import Derived.Test.YtjldikjnljidbaaXx5
import Derived.Test.YtjldikjnljidbaaXopen
namespace Go.Proofs.Ytjldikjnljidbaa.X
open Go.RowKit Go.Proofs.YtjldikjnljidbaaW
/-- WHAT IS TO BE PROVED OF weirkeeperlaw02_CheckApart. -/
def weirkeeperlaw02_CheckApart.Pure : Prop := ∀ (a0 : Int) (a1 : Int) (a2 : ByteArray), (Open.okInt .u32) a0 → (Open.okInt .u32) a1 → a2.size ≤ 140737488351232 → (weirkeeperlaw02_CheckApart.f a0 a1 a2 = some true)
end Go.Proofs.Ytjldikjnljidbaa.X
