-- Written by a program of this session (wip/tools/xprint.py) out of the translation. Not trusted: Lean checks it.
import Derived.Test.YtjldikjnljidbaaXx8
import Derived.Test.YtjldikjnljidbaaXopen
namespace Go.Proofs.Ytjldikjnljidbaa.X
open Go.RowKit Go.Proofs.YtjldikjnljidbaaW
/-- WHAT IS TO BE PROVED OF weirkeeperlaw02_CheckBurst. -/
def weirkeeperlaw02_CheckBurst.Pure : Prop := ∀ (a0 : ByteArray) (a1 : Int) (a2 : Int), a0.size ≤ 140737488351232 → (Open.okInt .u16) a1 → (Open.okInt .u32) a2 → (weirkeeperlaw02_CheckBurst.f a0 a1 a2 = some true)
end Go.Proofs.Ytjldikjnljidbaa.X
