-- Written by a program of this session (wip/tools/xprint.py) out of the translation. Not trusted: Lean checks it.
import Derived.Test.YtgjngaeoojcioaaXx0
import Derived.Test.YtgjngaeoojcioaaCTells
namespace Go.Proofs.Ytgjngaeoojcioaa.X
open Go.RowKit Go.Proofs.YtgjngaeoojcioaaW.PrintWords Go.Proofs.YtgjngaeoojcioaaW.PrintLast Go.Proofs.YtgjngaeoojcioaaW.PrintMore
attribute [local go_sem] max2_int min2_int max_two min_two max_three min_three max_four min_four max2_str min2_str   -- for this text's walks alone
set_option linter.unusedVariables false
set_option linter.unusedSimpArgs false

/-! ### weirkeeperlaw14_CacheTells: function 3, BY HAND -/
-- IMPORT CTells
noncomputable section
open Classical in
/-- CacheTells, walked by hand: it answers true where the calls answer as said (that is shown in the plain text). -/
def weirkeeperlaw14_CacheTells.f (a0_0 : Int) (l0_1 : List (S27)) (a1 : Int) (l2 : List (S27)) : Option (Bool) := if ∃ k, CTells.Fine k a0_0 l0_1 a1 l2 then some true else none
end
theorem weirkeeperlaw14_CacheTells.calls (a0_0 : Int) (A0_1 : Option Addr) (c0_1 : Nat) (l0_1 : List (S27)) (a1 : Int) (A2 : Option Addr) (c2 : Nat) (l2 : List (S27)) (r : Bool) (w : World) (hr0_1 : Kd.C k27 w A0_1 l0_1.length l0_1) (hc0_1 : l0_1.length ≤ c0_1) (hr2 : Kd.C k27 w A2 l2.length l2) (hc2 : l2.length ≤ c2) (h : weirkeeperlaw14_CacheTells.f a0_0 l0_1 a1 l2 = some r) :
    Calls Try.prog 3 #[.agg #[.int .i64 a0_0, .slice A0_1 l0_1.length c0_1], .int .i64 a1, .slice A2 l2.length c2] w fun e w' => e = .returned (.bool r) ∧ Below w.heap.size w w' := by
  unfold weirkeeperlaw14_CacheTells.f at h
  split at h
  · rename_i hc
    obtain rfl := Option.some.inj h
    obtain ⟨k, ha, h4⟩ := hc
    rcases h4 with h1 | ⟨h1, h2⟩ | ⟨h1, h2, ma, mb, md, mf, mg, mh, mn, mr, i0, e, kk, i1, i2, ok, may, rt, a, d, out, gg, dirty, n, b, f, went, h, were, rc, ri, ro, rd, h6⟩
    · exact CTells.walk_a k a0_0 A0_1 c0_1 l0_1 a1 A2 c2 l2 w hr0_1 hc0_1 hr2 hc2 ha h1
    · exact CTells.walk_b k a0_0 A0_1 c0_1 l0_1 a1 A2 c2 l2 w hr0_1 hc0_1 hr2 hc2 ha h1 h2
    · exact CTells.walk_c k a0_0 A0_1 c0_1 l0_1 a1 A2 c2 l2 w hr0_1 hc0_1 hr2 hc2 ha h1 h2 ma mb md mf mg mh mn mr i0 e kk i1 i2 ok may rt a d out gg dirty n b f went h were rc ri ro rd h6
  · cases h

end Go.Proofs.Ytgjngaeoojcioaa.X
