-- Written by a program of this session (wip/tools/xprint.py) out of the translation. Not trusted: Lean checks it.
import Derived.Test.YtgjngaeoojcioaaXx25
import Derived.Test.YtgjngaeoojcioaaXopen
namespace Go.Proofs.Ytgjngaeoojcioaa.X
open Go.RowKit Go.Proofs.YtgjngaeoojcioaaW
/-- WHAT IS TO BE PROVED OF weirkeeperlaw14_CacheKeeps. -/
def weirkeeperlaw14_CacheKeeps.Pure : Prop := ∀ (a0 : Int) (l1 : List Int), (Open.okInt .u8) a0 → (Open.okList (Open.okInt .i64)) l1 → (∃ k, weirkeeperlaw14_CacheKeeps.f k a0 l1 = some true)
end Go.Proofs.Ytgjngaeoojcioaa.X
