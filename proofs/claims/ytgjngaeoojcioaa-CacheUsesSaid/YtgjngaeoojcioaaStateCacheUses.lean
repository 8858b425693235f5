-- Written by a program of this session (wip/tools/xprint.py) out of the translation. Not trusted: Lean checks it.
import Derived.Test.YtgjngaeoojcioaaXx27
import Derived.Test.YtgjngaeoojcioaaXopen
namespace Go.Proofs.Ytgjngaeoojcioaa.X
open Go.RowKit Go.Proofs.YtgjngaeoojcioaaW
/-- WHAT IS TO BE PROVED OF weirkeeperlaw14_CacheUses. -/
def weirkeeperlaw14_CacheUses.Pure : Prop := ∀ (a0_0 : Int) (l0_1 : List (S27)) (a1_0 : Int) (a1_1 : ByteArray) (a1_2 : Bool) (a2 : Int), ok24 (⟨a0_0, l0_1⟩ : S24) → ok27 (⟨a1_0, a1_1, a1_2⟩ : S27) → (Open.okInt .i64) a2 → (∃ k, weirkeeperlaw14_CacheUses.f k a0_0 l0_1 a1_0 a1_1 a1_2 a2 = some true)
end Go.Proofs.Ytgjngaeoojcioaa.X
