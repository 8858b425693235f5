-- Written by a program of this session (wip/tools/xprint.py) out of the translation. Not trusted: Lean checks it.
import Derived.Test.YtbfhojfeolejlaaXx9
import Derived.Test.YtbfhojfeolejlaaXx10
import Derived.Test.YtbfhojfeolejlaaXx11
import Derived.Test.YtbfhojfeolejlaaXopen
namespace Go.Proofs.Ytbfhojfeolejlaa.X
open Go.RowKit Go.Proofs.YtbfhojfeolejlaaW
/-- WHAT IS TO BE PROVED OF weirkeeperlaw03_StretchNone. -/
def weirkeeperlaw03_StretchNone.Pure : Prop := ∀ (a0_0 : ByteArray) (a0_1 : ByteArray) (a0_2 : Bool) (a1_0 : ByteArray) (a1_1 : ByteArray) (a1_2 : Bool) (a2 : ByteArray), ok25 (⟨a0_0, a0_1, a0_2⟩ : S25) → ok25 (⟨a1_0, a1_1, a1_2⟩ : S25) → a2.size ≤ 140737488351232 → (∃ k, weirkeeperlaw03_StretchNone_v0.f k a0_0 a0_1 a0_2 a1_0 a1_1 a1_2 a2 = some true) ∨ (∃ k, weirkeeperlaw03_StretchNone_v1.f k a0_0 a0_1 a0_2 a1_0 a1_1 a1_2 a2 = some true) ∨ (∃ k, weirkeeperlaw03_StretchNone_v2.f k a0_0 a0_1 a0_2 a1_0 a1_1 a1_2 a2 = some true)
end Go.Proofs.Ytbfhojfeolejlaa.X
