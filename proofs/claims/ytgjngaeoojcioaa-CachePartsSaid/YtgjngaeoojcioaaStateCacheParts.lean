-- Written by a program of this session (wip/tools/xprint.py) out of the translation. Not trusted: Lean checks it.
import Derived.Test.YtgjngaeoojcioaaXx26
import Derived.Test.YtgjngaeoojcioaaXopen
namespace Go.Proofs.Ytgjngaeoojcioaa.X
open Go.RowKit Go.Proofs.YtgjngaeoojcioaaW
/-- WHAT IS TO BE PROVED OF weirkeeperlaw14_CacheParts. -/
def weirkeeperlaw14_CacheParts.Pure : Prop := ∀ (a0_0 : Int) (l0_1 : List (S27)) (l1 : List (S27)) (l2 : List (S27)) (a3 : Int), ok24 (⟨a0_0, l0_1⟩ : S24) → (Open.okList ok27) l1 → (Open.okList ok27) l2 → (Open.okInt .i64) a3 → (weirkeeperlaw14_CacheParts.f a0_0 l0_1 l1 l2 a3 = some true)
end Go.Proofs.Ytgjngaeoojcioaa.X
