-- Written by a program of this session (wip/tools/xprint.py) out of the translation. Not trusted: Lean checks it.
import Derived.Test.YtjldikjnljidbaaXx5
import Derived.Test.YtjldikjnljidbaaXopen
namespace Go.Proofs.Ytjldikjnljidbaa.X
open Go.RowKit Go.Proofs.YtjldikjnljidbaaW
/-- WHAT IS TO BE PROVED OF weirkeeperlaw02_CheckParts. -/
def weirkeeperlaw02_CheckParts.Pure : Prop := ∀ (l0 : List ByteArray), (Open.okList Open.okStr) l0 → (∃ k, weirkeeperlaw02_CheckParts.f k l0 = some true)
end Go.Proofs.Ytjldikjnljidbaa.X
