-- Written by a program of this session (wip/tools/xprint.py) out of the translation. Not trusted: Lean checks it.
import Derived.Test.YtbfhojfeolejlaaXx6
import Derived.Test.YtbfhojfeolejlaaXx7
import Derived.Test.YtbfhojfeolejlaaXx8
import Derived.Test.YtbfhojfeolejlaaXopen
namespace Go.Proofs.Ytbfhojfeolejlaa.X
open Go.RowKit Go.Proofs.YtbfhojfeolejlaaW
/-- WHAT IS TO BE PROVED OF weirkeeperlaw03_StretchWithin. -/
def weirkeeperlaw03_StretchWithin.Pure : Prop := ∀ (a0_0 : ByteArray) (a0_1 : ByteArray) (a0_2 : Bool) (a1_0 : ByteArray) (a1_1 : ByteArray) (a1_2 : Bool) (a2_0 : ByteArray) (a2_1 : ByteArray) (a2_2 : Bool) (a3 : ByteArray) (a4 : ByteArray), ok25 (⟨a0_0, a0_1, a0_2⟩ : S25) → ok25 (⟨a1_0, a1_1, a1_2⟩ : S25) → ok25 (⟨a2_0, a2_1, a2_2⟩ : S25) → a3.size ≤ 140737488351232 → a4.size ≤ 140737488351232 → (∃ k, weirkeeperlaw03_StretchWithin_v0.f k a0_0 a0_1 a0_2 a1_0 a1_1 a1_2 a2_0 a2_1 a2_2 a3 a4 = some true) ∨ (∃ k, weirkeeperlaw03_StretchWithin_v1.f k a0_0 a0_1 a0_2 a1_0 a1_1 a1_2 a2_0 a2_1 a2_2 a3 a4 = some true) ∨ (∃ k, weirkeeperlaw03_StretchWithin_v2.f k a0_0 a0_1 a0_2 a1_0 a1_1 a1_2 a2_0 a2_1 a2_2 a3 a4 = some true)
end Go.Proofs.Ytbfhojfeolejlaa.X
