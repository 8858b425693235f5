-- Written by a program of this session (wip/tools/xprint.py) out of the translation. Not trusted: Lean checks it.
import Derived.Test.YtgjngaeoojcioaaXx0
import Derived.Test.YtgjngaeoojcioaaCParts
namespace Go.Proofs.Ytgjngaeoojcioaa.X
open Go.RowKit Go.Proofs.YtgjngaeoojcioaaW.PrintWords Go.Proofs.YtgjngaeoojcioaaW.PrintLast Go.Proofs.YtgjngaeoojcioaaW.PrintMore
attribute [local go_sem] max2_int min2_int max_two min_two max_three min_three max_four min_four max2_str min2_str   -- for this text's walks alone
set_option linter.unusedVariables false
set_option linter.unusedSimpArgs false

/-! ### weirkeeperlaw14_CacheParts: function 6, BY HAND -/
-- IMPORT CParts
noncomputable section
open Classical in
/-- CacheParts, walked by hand: it answers true where the puts and the get answer as said (that is shown in the plain text). -/
def weirkeeperlaw14_CacheParts.f (a0_0 : Int) (l0_1 : List (S27)) (l1 : List (S27)) (l2 : List (S27)) (a3 : Int) : Option (Bool) := if ∃ k, CParts.Fine k a0_0 l0_1 l1 l2 a3 then some true else none
end
theorem weirkeeperlaw14_CacheParts.calls (a0_0 : Int) (A0_1 : Option Addr) (c0_1 : Nat) (l0_1 : List (S27)) (A1 : Option Addr) (c1 : Nat) (l1 : List (S27)) (A2 : Option Addr) (c2 : Nat) (l2 : List (S27)) (a3 : Int) (r : Bool) (w : World) (hr0_1 : Kd.C k27 w A0_1 l0_1.length l0_1) (hc0_1 : l0_1.length ≤ c0_1) (hr1 : Kd.C k27 w A1 l1.length l1) (hc1 : l1.length ≤ c1) (hr2 : Kd.C k27 w A2 l2.length l2) (hc2 : l2.length ≤ c2) (h : weirkeeperlaw14_CacheParts.f a0_0 l0_1 l1 l2 a3 = some r) :
    Calls Try.prog 6 #[.agg #[.int .i64 a0_0, .slice A0_1 l0_1.length c0_1], .slice A1 l1.length c1, .slice A2 l2.length c2, .int .i64 a3] w fun e w' => e = .returned (.bool r) ∧ Below w.heap.size w w' := by
  unfold weirkeeperlaw14_CacheParts.f at h
  split at h
  · rename_i hc
    obtain rfl := Option.some.inj h
    obtain ⟨k, ha, h4⟩ := hc
    rcases h4 with h1 | ⟨h1, h2⟩ | ⟨h1, h2, h3⟩ | ⟨h1, h2, h3, h5⟩ | ⟨h1, h2, h3, h5, m1, m2, my, mz, e1, i0, i1, i2, ok, x1, out, x2, more, y, all, z, mr, ry, ro, ra, h6⟩
    · exact CParts.walk_a k a0_0 A0_1 c0_1 l0_1 A1 c1 l1 A2 c2 l2 a3 w hr0_1 hc0_1 hr1 hc1 hr2 hc2 ha h1
    · exact CParts.walk_b k a0_0 A0_1 c0_1 l0_1 A1 c1 l1 A2 c2 l2 a3 w hr0_1 hc0_1 hr1 hc1 hr2 hc2 ha h1 h2
    · exact CParts.walk_c k a0_0 A0_1 c0_1 l0_1 A1 c1 l1 A2 c2 l2 a3 w hr0_1 hc0_1 hr1 hc1 hr2 hc2 ha h1 h2 h3
    · exact CParts.walk_d k a0_0 A0_1 c0_1 l0_1 A1 c1 l1 A2 c2 l2 a3 w hr0_1 hc0_1 hr1 hc1 hr2 hc2 ha h1 h2 h3 h5
    · exact CParts.walk_e k a0_0 A0_1 c0_1 l0_1 A1 c1 l1 A2 c2 l2 a3 w hr0_1 hc0_1 hr1 hc1 hr2 hc2 ha h1 h2 h3 h5 m1 m2 my mz e1 i0 i1 i2 ok x1 out x2 more y all z mr ry ro ra h6
  · cases h

end Go.Proofs.Ytgjngaeoojcioaa.X
