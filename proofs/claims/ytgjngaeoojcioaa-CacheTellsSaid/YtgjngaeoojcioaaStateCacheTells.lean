-- Written by a program of this session (wip/tools/xprint.py) out of the translation. Not trusted: Lean checks it.
import Derived.Test.YtgjngaeoojcioaaXx23
import Derived.Test.YtgjngaeoojcioaaXopen
namespace Go.Proofs.Ytgjngaeoojcioaa.X
open Go.RowKit Go.Proofs.YtgjngaeoojcioaaW
/-- WHAT IS TO BE PROVED OF weirkeeperlaw14_CacheTells. -/
def weirkeeperlaw14_CacheTells.Pure : Prop := ∀ (a0_0 : Int) (l0_1 : List (S27)) (a1 : Int) (l2 : List (S27)), ok24 (⟨a0_0, l0_1⟩ : S24) → (Open.okInt .i64) a1 → (Open.okList ok27) l2 → (weirkeeperlaw14_CacheTells.f a0_0 l0_1 a1 l2 = some true)
end Go.Proofs.Ytgjngaeoojcioaa.X
