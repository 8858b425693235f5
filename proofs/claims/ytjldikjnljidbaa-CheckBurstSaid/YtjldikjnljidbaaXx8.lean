-- Written by a program of this session (wip/tools/xprint.py) out of the translation. Not trusted: Lean checks it.
import Derived.Test.YtjldikjnljidbaaXx0
import Derived.Test.YtjldikjnljidbaaXx3
import Derived.Test.YtjldikjnljidbaaBurst
namespace Go.Proofs.Ytjldikjnljidbaa.X
open Go.RowKit Go.Proofs.YtjldikjnljidbaaW.PrintWords Go.Proofs.YtjldikjnljidbaaW.PrintLast Go.Proofs.YtjldikjnljidbaaW.PrintMore
attribute [local go_sem] max2_int min2_int max_two min_two max_three min_three max_four min_four max2_str min2_str   -- for this text's walks alone
set_option linter.unusedVariables false
set_option linter.unusedSimpArgs false

/-! ### weirkeeperlaw02_CheckBurst: function 5, BY HAND -/
-- IMPORT Burst
/-- CheckBurst, walked by hand: it answers true where the two sums are unlike (that is shown in the plain text). -/
def weirkeeperlaw02_CheckBurst.f (a0 : ByteArray) (a1 : Int) (a2 : Int) : Option (Bool) := if a0.size ≤ 140737488351232 ∧ 0 ≤ a1 ∧ a1 < 65536 ∧ 0 ≤ a2 ∧ a2 < 4294967296 then (if 300 < a0.size ∨ a0.size < 3 ∨ a2 % 16777216 = 0 then some true else (check_Sum.f 9 [strOfNums (Burst.numsOf (Burst.after a0.data.toList (a1 % (8 * (a0.size : Int) - 23)).toNat (a2 % 16777216).toNat 24))]).bind fun r1 => (check_Sum.f 9 [a0]).bind fun r2 => if (r1 != r2) = true then some true else none) else none
theorem weirkeeperlaw02_CheckBurst.calls (a0 : ByteArray) (a1 : Int) (a2 : Int) (r : Bool) (w : World) (h : weirkeeperlaw02_CheckBurst.f a0 a1 a2 = some r) :
    Calls Try.prog 5 #[.string a0, .int .u16 a1, .int .u32 a2] w fun e w' => e = .returned (.bool r) ∧ Below w.heap.size w w' := by
  unfold weirkeeperlaw02_CheckBurst.f at h
  split at h
  · rename_i hc
    obtain ⟨h1, h2, h3, h4, h5⟩ := hc
    split at h
    · rename_i ha
      obtain rfl := Option.some.inj h
      exact Burst.law_awake a0 a1 a2 ha h1 h4 h5 w
    · rename_i ha
      obtain ⟨r1, m1, h⟩ := Option.bind_eq_some_iff.mp h
      obtain ⟨r2, m2, h⟩ := Option.bind_eq_some_iff.mp h
      split at h
      · rename_i hne
        obtain rfl := Option.some.inj h
        have g1 := Int.emod_nonneg a1 (show 8 * (a0.size : Int) - 23 ≠ 0 by omega)
        have g2 := Int.emod_lt_of_pos a1 (show 0 < 8 * (a0.size : Int) - 23 by omega)
        exact Burst.law_calls a0 a1 a2 (by omega) (by omega) h2 h3 h4 h5 (by omega) _ _ (by omega) (by omega) (by omega) (by omega) r1 r2 m1 m2 hne w
      · cases h
  · cases h

end Go.Proofs.Ytjldikjnljidbaa.X
