-- Written by a program of this session (wip/tools/xprint.py) out of the translation. Not trusted: Lean checks it.
import Derived.Test.YtjldikjnljidbaaXx10
import Derived.Test.YtjldikjnljidbaaXopen
namespace Go.Proofs.Ytjldikjnljidbaa.X
open Go.RowKit Go.Proofs.YtjldikjnljidbaaW
/-- WHAT IS TO BE PROVED OF weirkeeperlaw02_CheckTable. -/
def weirkeeperlaw02_CheckTable.Pure : Prop := ∀ (a0 : Int) (a1 : Int) (a2 : Int), (Open.okInt .u8) a0 → (Open.okInt .u8) a1 → (Open.okInt .u32) a2 → (weirkeeperlaw02_CheckTable.f a0 a1 a2 = some true)
end Go.Proofs.Ytjldikjnljidbaa.X
