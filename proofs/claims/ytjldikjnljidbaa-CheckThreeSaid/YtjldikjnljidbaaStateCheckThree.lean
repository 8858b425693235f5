-- Written by a program of this session (wip/tools/xprint.py) out of the translation. Not trusted: Lean checks it.
import Derived.Test.YtjldikjnljidbaaXx9
import Derived.Test.YtjldikjnljidbaaXopen
namespace Go.Proofs.Ytjldikjnljidbaa.X
open Go.RowKit Go.Proofs.YtjldikjnljidbaaW
/-- WHAT IS TO BE PROVED OF weirkeeperlaw02_CheckThree. -/
def weirkeeperlaw02_CheckThree.Pure : Prop := ∀ (a0 : ByteArray) (a1 : ByteArray) (a2 : ByteArray), a0.size ≤ 140737488351232 → a1.size ≤ 140737488351232 → a2.size ≤ 140737488351232 → (weirkeeperlaw02_CheckThree.f a0 a1 a2 = some true)
end Go.Proofs.Ytjldikjnljidbaa.X
