-- Written by a program of this session (wip/tools/xprint.py) out of the translation. Not trusted: Lean checks it.
import Derived.Test.YtjldikjnljidbaaXx5
import Derived.Test.YtjldikjnljidbaaXopen
namespace Go.Proofs.Ytjldikjnljidbaa.X
open Go.RowKit Go.Proofs.YtjldikjnljidbaaW
/-- WHAT IS TO BE PROVED OF weirkeeperlaw02_CheckMore. -/
def weirkeeperlaw02_CheckMore.Pure : Prop := ∀ (a0 : Int) (a1 : ByteArray) (a2 : ByteArray), (Open.okInt .u32) a0 → a1.size ≤ 140737488351232 → a2.size ≤ 140737488351232 → (∃ k, weirkeeperlaw02_CheckMore.f k a0 a1 a2 = some true)
end Go.Proofs.Ytjldikjnljidbaa.X
