-- Written by a program of this session (wip/tools/xprint.py) out of the translation. Not trusted: Lean checks it.
import Derived.Test.YtbfhojfeolejlaaXx16
import Derived.Test.YtbfhojfeolejlaaXopen
namespace Go.Proofs.Ytbfhojfeolejlaa.X
open Go.RowKit Go.Proofs.YtbfhojfeolejlaaW
/-- WHAT IS TO BE PROVED OF weirkeeperlaw03_StretchPicks. -/
def weirkeeperlaw03_StretchPicks.Pure : Prop := ∀ (a0_0 : ByteArray) (a0_1 : ByteArray) (a0_2 : Bool) (a1_0 : ByteArray) (a1_1 : ByteArray) (a1_2 : Bool) (l2 : List (S42)), ok25 (⟨a0_0, a0_1, a0_2⟩ : S25) → ok25 (⟨a1_0, a1_1, a1_2⟩ : S25) → (Open.okList ok42) l2 → (∃ k, weirkeeperlaw03_StretchPicks.f k a0_0 a0_1 a0_2 a1_0 a1_1 a1_2 l2 = some true)
end Go.Proofs.Ytbfhojfeolejlaa.X
