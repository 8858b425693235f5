-- Written by a program of this session (wip/tools/xprint.py) out of the translation. Not trusted: Lean checks it.
import Derived.Test.YtjldikjnljidbaaXx13
import Derived.Test.YtjldikjnljidbaaXopen
namespace Go.Proofs.Ytjldikjnljidbaa.X
open Go.RowKit Go.Proofs.YtjldikjnljidbaaW
/-- WHAT IS TO BE PROVED OF weirkeeperlaw02_CheckZeros. -/
def weirkeeperlaw02_CheckZeros.Pure : Prop := ∀ (a0 : Int) (a1 : Int), (Open.okInt .u32) a0 → (Open.okInt .u16) a1 → (weirkeeperlaw02_CheckZeros.f a0 a1 = some true)
end Go.Proofs.Ytjldikjnljidbaa.X
